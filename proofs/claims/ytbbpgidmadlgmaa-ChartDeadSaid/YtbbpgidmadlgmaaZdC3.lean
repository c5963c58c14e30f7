/- Walks of functions of this seat, printed by a program over the engine. Conditions: as each theorem says. -/
import Derived.Test.YtbbpgidmadlgmaaZdC2
namespace Go.Proofs.Ytbbpgidmadlgmaa
noncomputable section
open Go.Eng Go.RowKit
set_option linter.unusedSimpArgs false
set_option linter.unusedVariables false
theorem hb30 : HasBody Try.prog 30 := fun _ _ => by kernel_rfl
def K30_0 := adv 2 [] (bodyOf Try.f30)
def K30_1 := adv 3 [] (popK K30_0)
def K30_2 := adv 2 [] (popK (popK K30_1))
def K30_3 := adv 1 [] (popK K30_2)
def K30_4 := adv 1 [] (popK K30_3)
set_option maxRecDepth 20000 in
set_option maxHeartbeats 20000000 in
theorem key_any  (w : World) : Ret Try.prog 30 #[] w (fun v w' => ∃ a1 a2 a3, v = .agg #[.slice a1 2 2, .slice a2 1 1, .int .i64 0, .slice a3 2 2] ∧ Sep w [rowOf mvE a3 2 42 5 [(⟨0, 1, 1, 0, 2⟩ : Mv), (⟨1, 0, 0, 1, 0⟩ : Mv)], rowOf (enc1 Value.string) a2 1 9 1 [⟨#[107, 101, 121]⟩], rowOf (enc1 Value.string) a1 2 9 1 [⟨#[111, 102, 102]⟩, ⟨#[111, 110]⟩]] w') := by
 have S0 := Sep.refl w
 refine Ret.named fun R hR => ?_
 refine Ret.of_J (N := 7) [] Try.func30 rfl rfl (Nat.le_of_ble_eq_true (by kernel_rfl)) (by kernel_rfl) ?_
 refine J.run 2 K30_0 [] w (by kernel_rfl) ?_
 refine J.new S0 0 [.slice none 0 0, .slice none 0 0, .int .i64 0, .slice none 0 0] 25 (by kernel_rfl) ?_
 intro b1 w1 S1
 refine J.run 3 K30_1 [(0, .pointer (some ⟨b1, 0, none⟩))] w1 (by kernel_rfl) ?_
 refine J.newSlice S1 1 2 [.string ⟨#[111, 102, 102]⟩, .string ⟨#[111, 110]⟩] 9 (by kernel_rfl) ?_
 intro b2 w2 S2
 refine J.newSlice S2 2 1 [.string ⟨#[107, 101, 121]⟩] 9 (by kernel_rfl) ?_
 intro b3 w3 S3
 refine J.run 2 K30_2 [(4, .agg #[.int .i64 1, .int .i64 0, .int .i64 0, .int .i64 1, .int .i64 0]), (3, .agg #[.int .i64 0, .int .i64 1, .int .i64 1, .int .i64 0, .int .i64 2]), (2, .slice (some ⟨b3, 0, none⟩) 1 1), (1, .slice (some ⟨b2, 0, none⟩) 2 2), (0, .pointer (some ⟨b1, 0, none⟩))] w3 (by kernel_rfl) ?_
 refine J.newSlice S3 5 2 [.int .i64 0, .int .i64 1, .int .i64 1, .int .i64 0, .int .i64 2, .int .i64 1, .int .i64 0, .int .i64 0, .int .i64 1, .int .i64 0] 42 (by kernel_rfl) ?_
 intro b4 w4 S4
 refine J.run 1 K30_3 [(6, .agg #[.slice (some ⟨b2, 0, none⟩) 2 2, .slice (some ⟨b3, 0, none⟩) 1 1, .int .i64 0, .slice (some ⟨b4, 0, none⟩) 2 2]), (0, .pointer (some ⟨b1, 0, none⟩))] w4 (by kernel_rfl) ?_
 refine J.stBox S4 3 25 0 (.agg #[.slice (some ⟨b2, 0, none⟩) 2 2, .slice (some ⟨b3, 0, none⟩) 1 1, .int .i64 0, .slice (some ⟨b4, 0, none⟩) 2 2]) [.slice (some ⟨b2, 0, none⟩) 2 2, .slice (some ⟨b3, 0, none⟩) 1 1, .int .i64 0, .slice (some ⟨b4, 0, none⟩) 2 2] [box b4 [.int .i64 0, .int .i64 1, .int .i64 1, .int .i64 0, .int .i64 2, .int .i64 1, .int .i64 0, .int .i64 0, .int .i64 1, .int .i64 0] 42, box b3 [.string ⟨#[107, 101, 121]⟩] 9, box b2 [.string ⟨#[111, 102, 102]⟩, .string ⟨#[111, 110]⟩] 9, box b1 [.slice (some ⟨b2, 0, none⟩) 2 2, .slice (some ⟨b3, 0, none⟩) 1 1, .int .i64 0, .slice (some ⟨b4, 0, none⟩) 2 2] 25] (by kernel_rfl) rfl (by kernel_rfl) (by kernel_rfl) rfl ?_
 intro w5 S5
 refine J.run 1 K30_4 [(0, .pointer (some ⟨b1, 0, none⟩))] w5 (by kernel_rfl) ?_
 refine J.ret Try.f30 [.agg #[.slice (some ⟨b2, 0, none⟩) 2 2, .slice (some ⟨b3, 0, none⟩) 1 1, .int .i64 0, .slice (some ⟨b4, 0, none⟩) 2 2]] Try.func30 ⟨⟨⟨b1, 0, none⟩, by kernel_rfl, ldV_run (S5.nth 3 rfl) (by kernel_rfl)⟩, trivial⟩ ?_
 refine hR _ _ ?_
 have S6 : Sep w [box b4 [.int .i64 0, .int .i64 1, .int .i64 1, .int .i64 0, .int .i64 2, .int .i64 1, .int .i64 0, .int .i64 0, .int .i64 1, .int .i64 0] 42, box b3 [.string ⟨#[107, 101, 121]⟩] 9, rowOf (enc1 Value.string) (some ⟨b2, 0, none⟩) 2 9 1 ([⟨#[111, 102, 102]⟩, ⟨#[111, 110]⟩]), box b1 [.slice (some ⟨b2, 0, none⟩) 2 2, .slice (some ⟨b3, 0, none⟩) 1 1, .int .i64 0, .slice (some ⟨b4, 0, none⟩) 2 2] 25] w5 := box_row (enc1 Value.string) S5 2 [⟨#[111, 102, 102]⟩, ⟨#[111, 110]⟩] 1 rfl rfl rfl (by decide) (.inr trivial)
 have S7 : Sep w [box b4 [.int .i64 0, .int .i64 1, .int .i64 1, .int .i64 0, .int .i64 2, .int .i64 1, .int .i64 0, .int .i64 0, .int .i64 1, .int .i64 0] 42, rowOf (enc1 Value.string) (some ⟨b3, 0, none⟩) 1 9 1 ([⟨#[107, 101, 121]⟩]), rowOf (enc1 Value.string) (some ⟨b2, 0, none⟩) 2 9 1 ([⟨#[111, 102, 102]⟩, ⟨#[111, 110]⟩]), box b1 [.slice (some ⟨b2, 0, none⟩) 2 2, .slice (some ⟨b3, 0, none⟩) 1 1, .int .i64 0, .slice (some ⟨b4, 0, none⟩) 2 2] 25] w5 := box_row (enc1 Value.string) S6 1 [⟨#[107, 101, 121]⟩] 1 rfl rfl rfl (by decide) (.inr trivial)
 have S8 : Sep w [rowOf mvE (some ⟨b4, 0, none⟩) 2 42 5 ([(⟨0, 1, 1, 0, 2⟩ : Mv), (⟨1, 0, 0, 1, 0⟩ : Mv)]), rowOf (enc1 Value.string) (some ⟨b3, 0, none⟩) 1 9 1 ([⟨#[107, 101, 121]⟩]), rowOf (enc1 Value.string) (some ⟨b2, 0, none⟩) 2 9 1 ([⟨#[111, 102, 102]⟩, ⟨#[111, 110]⟩]), box b1 [.slice (some ⟨b2, 0, none⟩) 2 2, .slice (some ⟨b3, 0, none⟩) 1 1, .int .i64 0, .slice (some ⟨b4, 0, none⟩) 2 2] 25] w5 := box_row mvE S7 0 [(⟨0, 1, 1, 0, 2⟩ : Mv), (⟨1, 0, 0, 1, 0⟩ : Mv)] 5 rfl rfl rfl (by decide) (.inr trivial)
 have S9 : Sep w [rowOf mvE (some ⟨b4, 0, none⟩) 2 42 5 ([(⟨0, 1, 1, 0, 2⟩ : Mv), (⟨1, 0, 0, 1, 0⟩ : Mv)]), rowOf (enc1 Value.string) (some ⟨b3, 0, none⟩) 1 9 1 ([⟨#[107, 101, 121]⟩]), rowOf (enc1 Value.string) (some ⟨b2, 0, none⟩) 2 9 1 ([⟨#[111, 102, 102]⟩, ⟨#[111, 110]⟩])] w5 := S8.erase 3
 exact ⟨_, _, _, rfl, S9⟩

theorem hb9 : HasBody Try.prog 9 := fun _ _ => by kernel_rfl
def K9_0 := adv 6 [] (bodyOf Try.f9)
def K9_1 := adv 11 [] (popK (popK (popK K9_0)))
def K9_2 := adv 1 [] K9_1
def K9_3 := adv 3 [] (popK (popK K9_2))
set_option maxRecDepth 20000 in
set_option maxHeartbeats 20000000 in
theorem awake_any  (w : World) : Ret Try.prog 9 #[] w (fun v w' => v = .bool true ∧ Sep w [] w') := by
 have S0 := Sep.refl w
 refine Ret.named fun R hR => ?_
 refine Ret.of_J (N := 16) [] Try.func9 rfl rfl (Nat.le_of_ble_eq_true (by kernel_rfl)) (by kernel_rfl) ?_
 refine J.run 6 K9_0 [] w (by kernel_rfl) ?_
 refine J.callF 4 30 #[] hb30 (by kernel_rfl) (key_any _) ?_
 rintro _ w1 ⟨ka1, ka2, ka3, rfl, T1⟩
 have S1 : Sep w [rowOf mvE ka3 2 42 5 ([(⟨0, 1, 1, 0, 2⟩ : Mv), (⟨1, 0, 0, 1, 0⟩ : Mv)]), rowOf (enc1 Value.string) ka2 1 9 1 ([⟨#[107, 101, 121]⟩]), rowOf (enc1 Value.string) ka1 2 9 1 ([⟨#[111, 102, 102]⟩, ⟨#[111, 110]⟩])] w1 := S0.trans T1
 refine J.newSlice S1 5 4 [.int .i64 1, .int .i64 1, .int .i64 1, .int .i64 0] 3 (by kernel_rfl) ?_
 intro b1 w2 S2
 refine J.callF 6 11 #[.agg #[.slice ka1 2 2, .slice ka2 1 1, .int .i64 0, .slice ka3 2 2], .slice (some ⟨b1, 0, none⟩) 4 4] hb11 (by kernel_rfl) (run_any (⟨ka1, 2, 2, [⟨#[111, 102, 102]⟩, ⟨#[111, 110]⟩], ka2, 1, 1, [⟨#[107, 101, 121]⟩], 0, ka3, 2, 2, [(⟨0, 1, 1, 0, 2⟩ : Mv), (⟨1, 0, 0, 1, 0⟩ : Mv)]⟩ : Cht) (some ⟨b1, 0, none⟩) 4 4 ([1, 1, 1, 0]) _ (show chtQ _ (⟨ka1, 2, 2, [⟨#[111, 102, 102]⟩, ⟨#[111, 110]⟩], ka2, 1, 1, [⟨#[107, 101, 121]⟩], 0, ka3, 2, 2, [(⟨0, 1, 1, 0, 2⟩ : Mv), (⟨1, 0, 0, 1, 0⟩ : Mv)]⟩ : Cht) from ⟨⟨(rowOf_cells (S2.nth 3 rfl)).2.2, rowOf_cap (S2.nth 3 rfl)⟩, (row1_ones (S2.nth 3 rfl) _ rfl), by exact (show ∀ y ∈ ([⟨#[111, 102, 102]⟩, ⟨#[111, 110]⟩] : List ByteArray), (fun b => b.size ≤ 9223372036854775807) y from by decide), ⟨(rowOf_cells (S2.nth 2 rfl)).2.2, rowOf_cap (S2.nth 2 rfl)⟩, (row1_ones (S2.nth 2 rfl) _ rfl), by exact (show ∀ y ∈ ([⟨#[107, 101, 121]⟩] : List ByteArray), (fun b => b.size ≤ 9223372036854775807) y from by decide), (show (-9223372036854775808) ≤ (0 : Int) ∧ (0 : Int) ≤ 9223372036854775807 from by omega), ⟨(rowOf_cells (S2.nth 1 rfl)).2.2, rowOf_cap (S2.nth 1 rfl)⟩, (rowOf_recs (S2.nth 1 rfl) _ rfl (fun _ => rfl) (by decide)), by simp [mvQ], trivial⟩) ((box_ints [1, 1, 1, 0] (S2.nth 0 rfl) rfl 4 rfl)) (by first | omega | (simp; omega))) ?_
 rintro _ w3 ⟨ra1, rc1, rfl, T2⟩
 have S3 : Sep w [rowOf encI ra1 rc1 3 1 (runO (⟨ka1, 2, 2, [⟨#[111, 102, 102]⟩, ⟨#[111, 110]⟩], ka2, 1, 1, [⟨#[107, 101, 121]⟩], 0, ka3, 2, 2, [(⟨0, 1, 1, 0, 2⟩ : Mv), (⟨1, 0, 0, 1, 0⟩ : Mv)]⟩ : Cht) ([1, 1, 1, 0])), box b1 [.int .i64 1, .int .i64 1, .int .i64 1, .int .i64 0] 3, rowOf mvE ka3 2 42 5 ([(⟨0, 1, 1, 0, 2⟩ : Mv), (⟨1, 0, 0, 1, 0⟩ : Mv)]), rowOf (enc1 Value.string) ka2 1 9 1 ([⟨#[107, 101, 121]⟩]), rowOf (enc1 Value.string) ka1 2 9 1 ([⟨#[111, 102, 102]⟩, ⟨#[111, 110]⟩])] w3 := S2.trans T2
 clear T2 S2
 have := runE_bounds (⟨ka1, 2, 2, [⟨#[111, 102, 102]⟩, ⟨#[111, 110]⟩], ka2, 1, 1, [⟨#[107, 101, 121]⟩], 0, ka3, 2, 2, [(⟨0, 1, 1, 0, 2⟩ : Mv), (⟨1, 0, 0, 1, 0⟩ : Mv)]⟩ : Cht) ([1, 1, 1, 0])
 refine J.run 11 K9_1 [(11, .bool ((runE (⟨ka1, 2, 2, [⟨#[111, 102, 102]⟩, ⟨#[111, 110]⟩], ka2, 1, 1, [⟨#[107, 101, 121]⟩], 0, ka3, 2, 2, [(⟨0, 1, 1, 0, 2⟩ : Mv), (⟨1, 0, 0, 1, 0⟩ : Mv)]⟩ : Cht) ([1, 1, 1, 0])) == 0)), (1, .slice ra1 ((runO (⟨ka1, 2, 2, [⟨#[111, 102, 102]⟩, ⟨#[111, 110]⟩], ka2, 1, 1, [⟨#[107, 101, 121]⟩], 0, ka3, 2, 2, [(⟨0, 1, 1, 0, 2⟩ : Mv), (⟨1, 0, 0, 1, 0⟩ : Mv)]⟩ : Cht) ([1, 1, 1, 0])).length) rc1)] w3 (by kernel_rfl) ?_
 have fk2 : (runE (⟨ka1, 2, 2, [⟨#[111, 102, 102]⟩, ⟨#[111, 110]⟩], ka2, 1, 1, [⟨#[107, 101, 121]⟩], 0, ka3, 2, 2, [(⟨0, 1, 1, 0, 2⟩ : Mv), (⟨1, 0, 0, 1, 0⟩ : Mv)]⟩ : Cht) ([1, 1, 1, 0])) = 0 := by kernel_rfl
 refine J.head (.bool true) (congrArg Value.bool (beq_iff_eq.2 fk2)) ?_
 refine J.run 1 K9_2 [(12, .slice ra1 ((runO (⟨ka1, 2, 2, [⟨#[111, 102, 102]⟩, ⟨#[111, 110]⟩], ka2, 1, 1, [⟨#[107, 101, 121]⟩], 0, ka3, 2, 2, [(⟨0, 1, 1, 0, 2⟩ : Mv), (⟨1, 0, 0, 1, 0⟩ : Mv)]⟩ : Cht) ([1, 1, 1, 0])).length) rc1), (11, .bool true)] w3 (by kernel_rfl) ?_
 refine J.newSlice S3 13 4 [.int .i64 0, .int .i64 0, .int .i64 1, .int .i64 0] 3 (by kernel_rfl) ?_
 intro b2 w4 S4
 have := rowOf_len (S4.nth 1 rfl)
 refine J.callF 14 13 #[.slice ra1 ((runO (⟨ka1, 2, 2, [⟨#[111, 102, 102]⟩, ⟨#[111, 110]⟩], ka2, 1, 1, [⟨#[107, 101, 121]⟩], 0, ka3, 2, 2, [(⟨0, 1, 1, 0, 2⟩ : Mv), (⟨1, 0, 0, 1, 0⟩ : Mv)]⟩ : Cht) ([1, 1, 1, 0])).length) rc1, .slice (some ⟨b2, 0, none⟩) 4 4] hb13 (by kernel_rfl) (equal_any ra1 ((runO (⟨ka1, 2, 2, [⟨#[111, 102, 102]⟩, ⟨#[111, 110]⟩], ka2, 1, 1, [⟨#[107, 101, 121]⟩], 0, ka3, 2, 2, [(⟨0, 1, 1, 0, 2⟩ : Mv), (⟨1, 0, 0, 1, 0⟩ : Mv)]⟩ : Cht) ([1, 1, 1, 0])).length) rc1 (runO (⟨ka1, 2, 2, [⟨#[111, 102, 102]⟩, ⟨#[111, 110]⟩], ka2, 1, 1, [⟨#[107, 101, 121]⟩], 0, ka3, 2, 2, [(⟨0, 1, 1, 0, 2⟩ : Mv), (⟨1, 0, 0, 1, 0⟩ : Mv)]⟩ : Cht) ([1, 1, 1, 0])) (some ⟨b2, 0, none⟩) 4 4 ([0, 0, 1, 0]) _ ((row1_ones (S4.nth 1 rfl) ((runO (⟨ka1, 2, 2, [⟨#[111, 102, 102]⟩, ⟨#[111, 110]⟩], ka2, 1, 1, [⟨#[107, 101, 121]⟩], 0, ka3, 2, 2, [(⟨0, 1, 1, 0, 2⟩ : Mv), (⟨1, 0, 0, 1, 0⟩ : Mv)]⟩ : Cht) ([1, 1, 1, 0])).length) (by first | rfl | omega | simp))) ((box_ints [0, 0, 1, 0] (S4.nth 0 rfl) rfl 4 rfl)) (by first | omega | (simp; omega))) ?_
 rintro _ w5 ⟨rfl, T3⟩
 have S5 : Sep w [box b2 [.int .i64 0, .int .i64 0, .int .i64 1, .int .i64 0] 3, rowOf encI ra1 rc1 3 1 (runO (⟨ka1, 2, 2, [⟨#[111, 102, 102]⟩, ⟨#[111, 110]⟩], ka2, 1, 1, [⟨#[107, 101, 121]⟩], 0, ka3, 2, 2, [(⟨0, 1, 1, 0, 2⟩ : Mv), (⟨1, 0, 0, 1, 0⟩ : Mv)]⟩ : Cht) ([1, 1, 1, 0])), box b1 [.int .i64 1, .int .i64 1, .int .i64 1, .int .i64 0] 3, rowOf mvE ka3 2 42 5 ([(⟨0, 1, 1, 0, 2⟩ : Mv), (⟨1, 0, 0, 1, 0⟩ : Mv)]), rowOf (enc1 Value.string) ka2 1 9 1 ([⟨#[107, 101, 121]⟩]), rowOf (enc1 Value.string) ka1 2 9 1 ([⟨#[111, 102, 102]⟩, ⟨#[111, 110]⟩])] w5 := S4.trans T3
 clear T3 S4
 refine J.run 3 K9_3 [(0, .bool ((runO (⟨ka1, 2, 2, [⟨#[111, 102, 102]⟩, ⟨#[111, 110]⟩], ka2, 1, 1, [⟨#[107, 101, 121]⟩], 0, ka3, 2, 2, [(⟨0, 1, 1, 0, 2⟩ : Mv), (⟨1, 0, 0, 1, 0⟩ : Mv)]⟩ : Cht) ([1, 1, 1, 0])) == ([0, 0, 1, 0])))] w5 (by kernel_rfl) ?_
 refine J.ret Try.f9 [.bool ((runO (⟨ka1, 2, 2, [⟨#[111, 102, 102]⟩, ⟨#[111, 110]⟩], ka2, 1, 1, [⟨#[107, 101, 121]⟩], 0, ka3, 2, 2, [(⟨0, 1, 1, 0, 2⟩ : Mv), (⟨1, 0, 0, 1, 0⟩ : Mv)]⟩ : Cht) ([1, 1, 1, 0])) == ([0, 0, 1, 0]))] Try.func9 ⟨by kernel_rfl, trivial⟩ ?_
 refine hR _ _ ?_
 exact ⟨congrArg Value.bool (by kernel_rfl), S5.nil⟩

theorem hb31 : HasBody Try.prog 31 := fun _ _ => by kernel_rfl
def K31_0 := adv 11 [] (bodyOf Try.f31)
set_option maxRecDepth 20000 in
set_option maxHeartbeats 20000000 in
theorem long_any (b : ByteArray) (w : World) : Ret Try.prog 31 #[.string b] w (fun v w' => v = .bool (decide ((b.size : Int) > 60)) ∧ Sep w [] w') := by
 have S0 := Sep.refl w
 refine Ret.named fun R hR => ?_
 refine Ret.of_J (N := 6) [(0, .string b)] Try.func31 rfl rfl (Nat.le_of_ble_eq_true (by kernel_rfl)) (by kernel_rfl) ?_
 refine J.run 11 K31_0 [(2, .bool (decide ((b.size : Int) > 60)))] w (by kernel_rfl) ?_
 refine J.ret Try.f31 [.bool (decide ((b.size : Int) > 60))] Try.func31 ⟨by kernel_rfl, trivial⟩ ?_
 refine hR _ _ ?_
 exact ⟨rfl, S0.nil⟩

theorem hb46 : HasBody Try.prog 46 := fun _ _ => by kernel_rfl
def K46_0 := adv 13 [] (bodyOf Try.f46)
def K46_1 := adv 5 [] K46_0
def K46_2 := adv 14 [true] K46_1
def K46_3 := adv 1 [] (popK (popK (popK K46_2)))
def K46_4 := adv 6 [true] K46_3
def K46_5 := adv 5 [false] K46_3
def K46_6 := adv 6 [false] K46_1
set_option maxRecDepth 20000 in
set_option maxHeartbeats 20000000 in
theorem indexS0 (la : Option Addr) (len cap : Nat) (l : List ByteArray) (g : FuncId) (q : ByteArray → Bool) (w : World) (hI : Ones Value.string w la len l) (hlen : len ≤ 9223372036854775807) (hbg : HasBody Try.prog g) (hcall : ∀ (i : Nat) (w2 : World), i < l.length → Sep w [] w2 → Ret Try.prog g #[.string (l.getD i ByteArray.empty)] w2 (fun v w3 => v = .bool (q (l.getD i ByteArray.empty)) ∧ Sep w2 [] w3)) : Ret Try.prog 46 #[.slice la len cap, .func (.func g) #[] #[]] w (fun v w' => v = .int .i64 (indexF q l) ∧ Sep w [] w') := by
 have S0 := Sep.refl w
 refine Ret.named fun R hR => ?_
 refine Ret.of_J (N := 19) [(0, .slice la len cap), (1, .func (.func g) #[] #[])] Try.func46 rfl rfl (Nat.le_of_ble_eq_true (by kernel_rfl)) (by kernel_rfl) ?_
 refine J.run 13 K46_0 [(8, .int .i64 0), (7, .int .i64 (len : Int)), (0, .slice la len cap), (1, .func (.func g) #[] #[])] w (by kernel_rfl) ?_
 have L46_1 : ∀ (mm_ : Nat) (i : Int) (w1 : World), (0 ≤ i) → (i ≤ (len : Int)) → (∀ j, j < (i).toNat → q (l.getD j ByteArray.empty) = false) → Sep w [] w1 → ((len : Int) - i).toNat = mm_ → J Try.prog 46 19 R K46_0 [(8, .int .i64 i), (7, .int .i64 (len : Int)), (0, .slice la len cap), (1, .func (.func g) #[] #[])] w1 := by
  intro mm1
  induction mm1 using Nat.strongRecOn with
  | _ mm1 ih1 =>
  intro i w1 h0 h1 hq S1 hm1
  refine J.run 5 K46_1 [(9, .bool (decide (i < (len : Int)))), (8, .int .i64 i), (7, .int .i64 (len : Int)), (0, .slice la len cap), (1, .func (.func g) #[] #[])] w1 (by kernel_rfl) ?_
  by_cases fk1 : i < (len : Int)
  rotate_left
  ·skip
   refine J.head (.bool false) (congrArg Value.bool (decide_eq_false fk1)) ?_
   refine J.run 6 K46_6 [(4, .int .i64 (-1))] w1 (by kernel_rfl) ?_
   refine J.ret Try.f46 [.int .i64 (-1)] Try.func46 ⟨by kernel_rfl, trivial⟩ ?_
   refine hR _ _ ?_
   exact ⟨by rw [tup_one, indexF_none ByteArray.empty fun j hj => hq j (by have := hI.len_eq; omega)], S1.nil⟩
  refine J.head (.bool true) (congrArg Value.bool (decide_eq_true fk1)) ?_
  refine J.run 14 K46_2 [(13, .int .i64 i), (12, .slice la len cap), (11, .func (.func g) #[] #[]), (5, .int .i64 i), (8, .int .i64 i), (7, .int .i64 (len : Int)), (0, .slice la len cap), (1, .func (.func g) #[] #[])] w1 (by kernel_rfl) ?_
  obtain ⟨p1, hp1, hc1⟩ := hI.at ByteArray.empty (i).toNat (by omega)
  refine J.ok (OK.index 14 22 1 la p1 len (i).toNat i (p1.add (i).toNat) (by kernel_rfl) (by kernel_rfl) hp1 (by omega) (by omega) (by rw [Nat.mul_one])) ?_
  refine J.ok (OK.ldCell 15 9 (p1.add (i).toNat) (.string (l.getD (i).toNat ByteArray.empty)) (by kernel_rfl) (by kernel_rfl) (S1.cell hc1)) ?_
  refine J.callF 16 g #[.string (l.getD (i).toNat ByteArray.empty)] hbg (by kernel_rfl) (hcall (i).toNat w1 (by have := hI.len_eq; omega) S1.nil) ?_
  rintro _ w2 ⟨rfl, T1⟩
  have S2 : Sep w [] w2 := S1.trans T1
  clear T1 S1
  refine J.run 1 K46_3 [(16, .bool (q (l.getD (i).toNat ByteArray.empty))), (5, .int .i64 i), (8, .int .i64 i), (7, .int .i64 (len : Int)), (0, .slice la len cap), (1, .func (.func g) #[] #[])] w2 (by kernel_rfl) ?_
  rcases Bool.eq_false_or_eq_true (q (l.getD (i).toNat ByteArray.empty)) with fk2 | fk2
  ·skip
   refine J.head (.bool true) (congrArg Value.bool fk2) ?_
   refine J.run 6 K46_4 [(4, .int .i64 i)] w2 (by kernel_rfl) ?_
   refine J.ret Try.f46 [.int .i64 i] Try.func46 ⟨by kernel_rfl, trivial⟩ ?_
   refine hR _ _ ?_
   exact ⟨by rw [tup_one, indexF_some ByteArray.empty i.toNat (by have := hI.len_eq; omega) hq fk2, Int.toNat_of_nonneg h0], S2.nil⟩
  refine J.head (.bool false) (congrArg Value.bool fk2) ?_
  refine J.run 5 K46_5 [(18, .int .i64 (IntKind.wrap .i64 (i + 1))), (7, .int .i64 (len : Int)), (0, .slice la len cap), (1, .func (.func g) #[] #[])] w2 (by kernel_rfl) ?_
  refine J.head (.int .i64 (i + 1)) (congrArg (Value.int .i64) (IntWalk.i64_in _ (by omega))) ?_
  refine J.run 3 K46_0 [(8, .int .i64 (i + 1)), (7, .int .i64 (len : Int)), (0, .slice la len cap), (1, .func (.func g) #[] #[])] w2 (by kernel_rfl) ?_
  refine J.run 0 K46_0 [(8, .int .i64 (i + 1)), (7, .int .i64 (len : Int)), (0, .slice la len cap), (1, .func (.func g) #[] #[])] w2 (by kernel_rfl) ?_
  exact ih1 _ (show ((len : Int) - (i + 1)).toNat < mm1 from by omega) (i + 1) w2 (by omega) (by omega) (by intro j hj; by_cases e : j = i.toNat; (subst e; exact fk2); exact hq j (by omega)) S2 rfl
 exact L46_1 _ 0 w (by omega) (by omega) (by intro j hj; simp at hj) S0 rfl

theorem hb32 : HasBody Try.prog 32 := fun _ _ => by kernel_rfl
def K32_0 := adv 8 [] (bodyOf Try.f32)
def K32_1 := adv 3 [] (popK K32_0)
set_option maxRecDepth 20000 in
set_option maxHeartbeats 20000000 in
theorem containsS0 (la : Option Addr) (len cap : Nat) (l : List ByteArray) (g : FuncId) (q : ByteArray → Bool) (w : World) (hI : Ones Value.string w la len l) (hlen : len ≤ 9223372036854775807) (hbg : HasBody Try.prog g) (hcall : ∀ (i : Nat) (w2 : World), i < l.length → Sep w [] w2 → Ret Try.prog g #[.string (l.getD i ByteArray.empty)] w2 (fun v w3 => v = .bool (q (l.getD i ByteArray.empty)) ∧ Sep w2 [] w3)) : Ret Try.prog 32 #[.slice la len cap, .func (.func g) #[] #[]] w (fun v w' => v = .bool (l.any q) ∧ Sep w [] w') := by
 have S0 := Sep.refl w
 refine Ret.named fun R hR => ?_
 refine Ret.of_J (N := 9) [(0, .slice la len cap), (1, .func (.func g) #[] #[])] Try.func32 rfl rfl (Nat.le_of_ble_eq_true (by kernel_rfl)) (by kernel_rfl) ?_
 refine J.run 8 K32_0 [(6, .func (.func g) #[] #[]), (5, .slice la len cap)] w (by kernel_rfl) ?_
 refine J.callF 7 46 #[.slice la len cap, .func (.func g) #[] #[]] hb46 (by kernel_rfl) (indexS0 la len cap l g  q _ (hI.sep S0) (by first | omega | (simp; omega)) hbg (hcall)) ?_
 rintro _ w1 ⟨rfl, T1⟩
 have S1 : Sep w [] w1 := S0.trans T1
 clear T1
 refine J.run 3 K32_1 [(4, .bool (decide ((indexF q l) ≥ 0)))] w1 (by kernel_rfl) ?_
 refine J.ret Try.f32 [.bool (decide ((indexF q l) ≥ 0))] Try.func32 ⟨by kernel_rfl, trivial⟩ ?_
 refine hR _ _ ?_
 exact ⟨congrArg Value.bool (by first | exact indexF_nonneg), S1.nil⟩

def smallB (c : Cht) : Bool := decide (c.gStates_n ≤ 24) && decide (c.gInputs_n ≤ 12) && decide (c.gMoves_n ≤ 110) && !(c.gStates_l.any fun b => decide ((b.size : Int) > 60)) && !(c.gInputs_l.any fun b => decide ((b.size : Int) > 60))
theorem hb10 : HasBody Try.prog 10 := fun _ _ => by kernel_rfl
def K10_0 := adv 2 [] (bodyOf Try.f10)
def K10_1 := adv 9 [] (popK K10_0)
def K10_2 := adv 3 [] (popK K10_1)
def K10_3 := adv 1 [] K10_2
def K10_4 := adv 4 [] (popK K10_3)
def K10_5 := adv 1 [] K10_4
def K10_6 := adv 4 [] (popK K10_5)
def K10_7 := adv 1 [] K10_6
def K10_8 := adv 1 [] (popK K10_7)
def K10_9 := adv 3 [] (popK K10_8)
def K10_10 := adv 8 [] K10_9
def K10_11 := adv 1 [] K10_9
def K10_12 := adv 1 [] (popK K10_11)
def K10_13 := adv 4 [] (popK K10_12)
def K10_14 := adv 15 [] K10_6
def K10_15 := adv 21 [] K10_4
def K10_16 := adv 27 [] K10_2
set_option maxRecDepth 20000 in
set_option maxHeartbeats 20000000 in
theorem small_any (c : Cht) (w : World) (hc : chtQ w c) : Ret Try.prog 10 #[.agg #[.slice c.gStates_a c.gStates_n c.gStates_c, .slice c.gInputs_a c.gInputs_n c.gInputs_c, .int .i64 c.gStart, .slice c.gMoves_a c.gMoves_n c.gMoves_c]] w (fun v w' => v = .bool (smallB c) ∧ Sep w [] w') := by
 have S0 := Sep.refl w
 refine Ret.named fun R hR => ?_
 refine Ret.of_J (N := 34) [(0, .agg #[.slice c.gStates_a c.gStates_n c.gStates_c, .slice c.gInputs_a c.gInputs_n c.gInputs_c, .int .i64 c.gStart, .slice c.gMoves_a c.gMoves_n c.gMoves_c])] Try.func10 rfl rfl (Nat.le_of_ble_eq_true (by kernel_rfl)) (by kernel_rfl) ?_
 obtain ⟨q1, q2, q3, q4, q5, q6, q7, q8, q9, q10, _⟩ := id hc
 have ql1 := q2.len_eq
 have ql2 := q5.len_eq
 have ql3 := q9.len_eq
 refine J.run 2 K10_0 [(0, .agg #[.slice c.gStates_a c.gStates_n c.gStates_c, .slice c.gInputs_a c.gInputs_n c.gInputs_c, .int .i64 c.gStart, .slice c.gMoves_a c.gMoves_n c.gMoves_c])] w (by kernel_rfl) ?_
 refine J.new S0 1 [.slice c.gStates_a c.gStates_n c.gStates_c, .slice c.gInputs_a c.gInputs_n c.gInputs_c, .int .i64 c.gStart, .slice c.gMoves_a c.gMoves_n c.gMoves_c] 25 (by kernel_rfl) ?_
 intro b1 w1 S1
 refine J.run 9 K10_1 [(4, .pointer (some ⟨b1, 0, none⟩)), (3, .func (.func 31) #[] #[]), (1, .pointer (some ⟨b1, 0, none⟩))] w1 (by kernel_rfl) ?_
 refine J.ok (OK.ldBox S1 0 5 22 0 (.slice c.gStates_a c.gStates_n c.gStates_c) (by kernel_rfl) rfl (by kernel_rfl)) ?_
 refine J.run 3 K10_2 [(8, .bool (decide ((c.gStates_n : Int) ≤ 24))), (3, .func (.func 31) #[] #[]), (1, .pointer (some ⟨b1, 0, none⟩))] w1 (by kernel_rfl) ?_
 by_cases fk1 : (c.gStates_n : Int) ≤ 24
 rotate_left
 ·skip
  refine J.head (.bool false) (congrArg Value.bool (decide_eq_false fk1)) ?_
  refine J.run 27 K10_16 [(2, .bool false)] w1 (by kernel_rfl) ?_
  refine J.ret Try.f10 [.bool false] Try.func10 ⟨by kernel_rfl, trivial⟩ ?_
  refine hR _ _ ?_
  exact ⟨congrArg Value.bool (by rw [Bool.eq_iff_iff]; first | (simp only [smallB, Bool.and_eq_true, decide_eq_true_eq, Bool.not_eq_true', fk1]; simp; done) | (simp only [smallB, Bool.and_eq_true, decide_eq_true_eq, fk1]; simp; omega) | (simp [smallB]; omega)), S1.nil⟩
 refine J.head (.bool true) (congrArg Value.bool (decide_eq_true fk1)) ?_
 refine J.run 1 K10_3 [(9, .pointer (some ⟨b1, 1, none⟩)), (8, .bool true), (3, .func (.func 31) #[] #[]), (1, .pointer (some ⟨b1, 0, none⟩))] w1 (by kernel_rfl) ?_
 refine J.ok (OK.ldBox S1 0 10 22 1 (.slice c.gInputs_a c.gInputs_n c.gInputs_c) (by kernel_rfl) rfl (by kernel_rfl)) ?_
 refine J.run 4 K10_4 [(14, .bool (decide ((c.gInputs_n : Int) ≤ 12))), (3, .func (.func 31) #[] #[]), (1, .pointer (some ⟨b1, 0, none⟩))] w1 (by kernel_rfl) ?_
 by_cases fk2 : (c.gInputs_n : Int) ≤ 12
 rotate_left
 ·skip
  refine J.head (.bool false) (congrArg Value.bool (decide_eq_false fk2)) ?_
  refine J.run 21 K10_15 [(2, .bool false)] w1 (by kernel_rfl) ?_
  refine J.ret Try.f10 [.bool false] Try.func10 ⟨by kernel_rfl, trivial⟩ ?_
  refine hR _ _ ?_
  exact ⟨congrArg Value.bool (by rw [Bool.eq_iff_iff]; first | (simp only [smallB, Bool.and_eq_true, decide_eq_true_eq, Bool.not_eq_true', fk1, fk2]; simp; done) | (simp only [smallB, Bool.and_eq_true, decide_eq_true_eq, fk1, fk2]; simp; omega) | (simp [smallB]; omega)), S1.nil⟩
 refine J.head (.bool true) (congrArg Value.bool (decide_eq_true fk2)) ?_
 refine J.run 1 K10_5 [(15, .pointer (some ⟨b1, 3, none⟩)), (14, .bool true), (3, .func (.func 31) #[] #[]), (1, .pointer (some ⟨b1, 0, none⟩))] w1 (by kernel_rfl) ?_
 refine J.ok (OK.ldBox S1 0 16 23 3 (.slice c.gMoves_a c.gMoves_n c.gMoves_c) (by kernel_rfl) rfl (by kernel_rfl)) ?_
 refine J.run 4 K10_6 [(20, .bool (decide ((c.gMoves_n : Int) ≤ 110))), (3, .func (.func 31) #[] #[]), (1, .pointer (some ⟨b1, 0, none⟩))] w1 (by kernel_rfl) ?_
 by_cases fk3 : (c.gMoves_n : Int) ≤ 110
 rotate_left
 ·skip
  refine J.head (.bool false) (congrArg Value.bool (decide_eq_false fk3)) ?_
  refine J.run 15 K10_14 [(2, .bool false)] w1 (by kernel_rfl) ?_
  refine J.ret Try.f10 [.bool false] Try.func10 ⟨by kernel_rfl, trivial⟩ ?_
  refine hR _ _ ?_
  exact ⟨congrArg Value.bool (by rw [Bool.eq_iff_iff]; first | (simp only [smallB, Bool.and_eq_true, decide_eq_true_eq, Bool.not_eq_true', fk1, fk2, fk3]; simp; done) | (simp only [smallB, Bool.and_eq_true, decide_eq_true_eq, fk1, fk2, fk3]; simp; omega) | (simp [smallB]; omega)), S1.nil⟩
 refine J.head (.bool true) (congrArg Value.bool (decide_eq_true fk3)) ?_
 refine J.run 1 K10_7 [(21, .pointer (some ⟨b1, 0, none⟩)), (20, .bool true), (3, .func (.func 31) #[] #[]), (1, .pointer (some ⟨b1, 0, none⟩))] w1 (by kernel_rfl) ?_
 refine J.ok (OK.ldBox S1 0 22 22 0 (.slice c.gStates_a c.gStates_n c.gStates_c) (by kernel_rfl) rfl (by kernel_rfl)) ?_
 refine J.run 1 K10_8 [(23, .func (.func 31) #[] #[]), (22, .slice c.gStates_a c.gStates_n c.gStates_c), (20, .bool true), (3, .func (.func 31) #[] #[]), (1, .pointer (some ⟨b1, 0, none⟩))] w1 (by kernel_rfl) ?_
 refine J.callF 24 32 #[.slice c.gStates_a c.gStates_n c.gStates_c, .func (.func 31) #[] #[]] hb32 (by kernel_rfl) (containsS0 c.gStates_a c.gStates_n c.gStates_c c.gStates_l 31  (fun b => decide ((b.size : Int) > 60)) _ (q2.sep S1) (by first | omega | (simp; omega)) hb31 (fun i_ w_ hi_ S_ => long_any _ w_)) ?_
 rintro _ w2 ⟨rfl, T1⟩
 have S2 : Sep w [box b1 [.slice c.gStates_a c.gStates_n c.gStates_c, .slice c.gInputs_a c.gInputs_n c.gInputs_c, .int .i64 c.gStart, .slice c.gMoves_a c.gMoves_n c.gMoves_c] 25] w2 := S1.trans T1
 clear T1 S1
 refine J.run 3 K10_9 [(27, .bool (!(List.any c.gStates_l (fun b => decide ((b.size : Int) > 60))))), (3, .func (.func 31) #[] #[]), (1, .pointer (some ⟨b1, 0, none⟩))] w2 (by kernel_rfl) ?_
 rcases Bool.eq_false_or_eq_true (List.any c.gStates_l (fun b => decide ((b.size : Int) > 60))) with fk4 | fk4
 ·skip
  refine J.head (.bool false) (congrArg Value.bool (by rw [fk4]; rfl)) ?_
  refine J.run 8 K10_10 [(2, .bool false)] w2 (by kernel_rfl) ?_
  refine J.ret Try.f10 [.bool false] Try.func10 ⟨by kernel_rfl, trivial⟩ ?_
  refine hR _ _ ?_
  exact ⟨congrArg Value.bool (by rw [Bool.eq_iff_iff]; first | (simp only [smallB, Bool.and_eq_true, decide_eq_true_eq, Bool.not_eq_true', fk1, fk2, fk3, fk4]; simp; done) | (simp only [smallB, Bool.and_eq_true, decide_eq_true_eq, fk1, fk2, fk3, fk4]; simp; omega) | (simp [smallB]; omega)), S2.nil⟩
 refine J.head (.bool true) (congrArg Value.bool (by rw [fk4]; rfl)) ?_
 refine J.run 1 K10_11 [(28, .pointer (some ⟨b1, 1, none⟩)), (27, .bool true), (3, .func (.func 31) #[] #[])] w2 (by kernel_rfl) ?_
 refine J.ok (OK.ldBox S2 0 29 22 1 (.slice c.gInputs_a c.gInputs_n c.gInputs_c) (by kernel_rfl) rfl (by kernel_rfl)) ?_
 refine J.run 1 K10_12 [(30, .func (.func 31) #[] #[]), (29, .slice c.gInputs_a c.gInputs_n c.gInputs_c), (27, .bool true)] w2 (by kernel_rfl) ?_
 refine J.callF 31 32 #[.slice c.gInputs_a c.gInputs_n c.gInputs_c, .func (.func 31) #[] #[]] hb32 (by kernel_rfl) (containsS0 c.gInputs_a c.gInputs_n c.gInputs_c c.gInputs_l 31  (fun b => decide ((b.size : Int) > 60)) _ (q5.sep S2) (by first | omega | (simp; omega)) hb31 (fun i_ w_ hi_ S_ => long_any _ w_)) ?_
 rintro _ w3 ⟨rfl, T2⟩
 have S3 : Sep w [box b1 [.slice c.gStates_a c.gStates_n c.gStates_c, .slice c.gInputs_a c.gInputs_n c.gInputs_c, .int .i64 c.gStart, .slice c.gMoves_a c.gMoves_n c.gMoves_c] 25] w3 := S2.trans T2
 clear T2 S2
 refine J.run 4 K10_13 [(2, .bool (!(List.any c.gInputs_l (fun b => decide ((b.size : Int) > 60)))))] w3 (by kernel_rfl) ?_
 refine J.ret Try.f10 [.bool (!(List.any c.gInputs_l (fun b => decide ((b.size : Int) > 60))))] Try.func10 ⟨by kernel_rfl, trivial⟩ ?_
 refine hR _ _ ?_
 exact ⟨congrArg Value.bool (by rw [Bool.eq_iff_iff]; first | (simp only [smallB, Bool.and_eq_true, decide_eq_true_eq, Bool.not_eq_true', fk1, fk2, fk3, fk4]; simp; done) | (simp only [smallB, Bool.and_eq_true, decide_eq_true_eq, fk1, fk2, fk3, fk4]; simp; omega) | (simp [smallB]; omega)), S3.nil⟩

end
end Go.Proofs.Ytbbpgidmadlgmaa

