/- Walks of functions of this seat, printed by a program over the engine. Conditions: as each theorem says. -/
import Derived.Test.YtlklealllohmgaaDoorX9
namespace Go.Proofs.YtlklealllohmgaaDoor
open Go.Eng Go.RowKit
set_option linter.unusedSimpArgs false
set_option linter.unusedVariables false
theorem endT_len (sm : Bool) (ln col : Int) (out : List Tk) : (endT sm ln col out).length ≤ out.length + 1 := by
  unfold endT; split
  · rw [List.length_append]; exact Nat.le_refl _
  · omega
theorem addT_len (t : Int × Nat × Int) (r : List UInt8) (ln col : Int) (out : List Tk) : (addT t r ln col out).length ≤ out.length + 1 := by
  unfold addT; split
  · rw [List.length_append]; exact Nat.le_refl _
  · omega
theorem gS_len : ∀ (f : Nat) (r : List UInt8) (ln col : Int) (sm cm : Bool) (out : List Tk), r.length < f → (gS f r ln col sm cm out).l.length ≤ out.length + r.length + 1 := by
  intro f
  induction f with
  | zero => intro r _ _ _ _ _ h; omega
  | succ f ih =>
    intro r ln col sm cm out hf
    cases r with
    | nil => exact endT_len sm ln col out
    | cons c r =>
      simp only [List.length_cons] at hf ⊢
      unfold gS
      split
      · have h1 := ih r (ln + 1) 1 false false (endT sm ln col out) (by omega)
        have h2 := endT_len sm ln col out
        omega
      · split
        · split
          · exact Nat.zero_le _
          · have h1 := ih r ln (col + 1) sm true out (by omega)
            omega
        · split
          · have h1 := ih r ln (col + 1) sm true out (by omega)
            omega
          · split
            · exact Nat.zero_le _
            · rename_i he
              have hl := tok_len (r := c :: r) (by simpa using he)
              have h1 := ih ((c :: r).drop (tokAt (c :: r)).2.1) ln (col + (tokAt (c :: r)).2.1) (sm || decide (0 < (tokAt (c :: r)).1)) false (addT (tokAt (c :: r)) (c :: r) ln col out) (by rw [List.length_drop]; simp only [List.length_cons]; omega)
              have h2 := addT_len (tokAt (c :: r)) (c :: r) ln col out
              rw [List.length_drop] at h1
              simp only [List.length_cons] at h1 hl
              omega
theorem tkF_len (s : ByteArray) : (tkF s).l.length ≤ 16385 := by
  unfold tkF
  split
  · exact Nat.zero_le _
  · rename_i h
    have := gS_len ((ls s).length + 1) (ls s) 1 1 false false [] (by omega)
    rw [ls_length] at this
    show (gS ((ls s).length + 1) (ls s) 1 1 false false []).l.length ≤ 16385
    rw [ls_length]
    simp only [List.length_nil] at this
    omega

theorem hb9 : HasBody Tryd.prog 9 := fun _ _ => by kernel_rfl
noncomputable def K9_0 : List Item := adv 6 [] (bodyOf Tryd.f9)
noncomputable def K9_1 : List Item := adv 4 [] (popK K9_0)
noncomputable def K9_2 : List Item := adv 1 [] (popK K9_1)
noncomputable def K9_3 : List Item := adv 4 [] (popK K9_2)
noncomputable def K9_4 : List Item := adv 15 [] (popK K9_3)
noncomputable def K9_5 : List Item := adv 1 [] (popK K9_4)
noncomputable def K9_6 : List Item := adv 2 [] (popK K9_5)
noncomputable def K9_7 : List Item := adv 5 [] K9_6
noncomputable def K9_8 : List Item := adv 1 [] K9_7
noncomputable def K9_9 : List Item := adv 2 [] (popK (popK K9_8))
noncomputable def K9_10 : List Item := adv 2 [] (popK K9_9)
noncomputable def K9_11 : List Item := adv 1 [] K9_10
noncomputable def K9_12 : List Item := adv 2 [] (popK (popK K9_11))
noncomputable def K9_13 : List Item := adv 2 [] (popK K9_12)
noncomputable def K9_14 : List Item := adv 3 [] K9_13
noncomputable def K9_15 : List Item := adv 5 [] K9_14
set_option maxRecDepth 20000 in
set_option maxHeartbeats 20000000 in
theorem awake_any  (w : World) (hW : TabW w) : Ret Tryd.prog 9 #[] w (fun v w' => v = .bool true ∧ Sep w [] w') := by
  have S0 := Sep.refl w
  refine Ret.named fun R hR => ?_
  refine Ret.of_J (N := 54) [] Tryd.func9 rfl rfl (Nat.le_of_ble_eq_true (by kernel_rfl)) (by kernel_rfl) ?_
  have hsz : (⟨#[97, 32, 61, 32, 97, 100, 100, 40, 98, 44, 32, 45, 50, 41, 32, 35, 32, 115, 117, 109]⟩ : ByteArray).size = 20 := rfl
  have hl9 : (tkF (⟨#[97, 32, 61, 32, 97, 100, 100, 40, 98, 44, 32, 45, 50, 41, 32, 35, 32, 115, 117, 109]⟩ : ByteArray)).l.length = 9 := by kernel_rfl
  refine J.run 6 K9_0 [] w (by kernel_rfl) ?_
  refine J.callF 9 10 #[.string ⟨#[97, 32, 61, 32, 97, 100, 100, 40, 98, 44, 32, 45, 50, 41, 32, 35, 32, 115, 117, 109]⟩] hb10 (by kernel_rfl) (tokens_any (⟨#[97, 32, 61, 32, 97, 100, 100, 40, 98, 44, 32, 45, 50, 41, 32, 35, 32, 115, 117, 109]⟩ : ByteArray) _ (by omega) (tabW_sep hW S0)) ?_
  rintro _ w1 ⟨ra1, rc1, rfl, T1⟩
  have S1 : Sep w [rowOf tkE ra1 rc1 36 4 ((tkF (⟨#[97, 32, 61, 32, 97, 100, 100, 40, 98, 44, 32, 45, 50, 41, 32, 35, 32, 115, 117, 109]⟩ : ByteArray)).l)] w1 := S0.trans T1
  clear T1
  refine J.run 4 K9_1 [(12, .int .i64 ((tkF (⟨#[97, 32, 61, 32, 97, 100, 100, 40, 98, 44, 32, 45, 50, 41, 32, 35, 32, 115, 117, 109]⟩ : ByteArray)).e)), (11, .agg #[.int .i64 ((tkF (⟨#[97, 32, 61, 32, 97, 100, 100, 40, 98, 44, 32, 45, 50, 41, 32, 35, 32, 115, 117, 109]⟩ : ByteArray)).pl), .int .i64 ((tkF (⟨#[97, 32, 61, 32, 97, 100, 100, 40, 98, 44, 32, 45, 50, 41, 32, 35, 32, 115, 117, 109]⟩ : ByteArray)).pc)]), (10, .slice ra1 (((tkF (⟨#[97, 32, 61, 32, 97, 100, 100, 40, 98, 44, 32, 45, 50, 41, 32, 35, 32, 115, 117, 109]⟩ : ByteArray)).l).length) rc1)] w1 (by kernel_rfl) ?_
  refine J.new S1 2 [.int .i64 0, .int .i64 0] 25 (by kernel_rfl) ?_
  intro b1 w2 S2
  refine J.run 1 K9_2 [(1, .slice ra1 (((tkF (⟨#[97, 32, 61, 32, 97, 100, 100, 40, 98, 44, 32, 45, 50, 41, 32, 35, 32, 115, 117, 109]⟩ : ByteArray)).l).length) rc1), (2, .pointer (some ⟨b1, 0, none⟩)), (12, .int .i64 ((tkF (⟨#[97, 32, 61, 32, 97, 100, 100, 40, 98, 44, 32, 45, 50, 41, 32, 35, 32, 115, 117, 109]⟩ : ByteArray)).e)), (11, .agg #[.int .i64 ((tkF (⟨#[97, 32, 61, 32, 97, 100, 100, 40, 98, 44, 32, 45, 50, 41, 32, 35, 32, 115, 117, 109]⟩ : ByteArray)).pl), .int .i64 ((tkF (⟨#[97, 32, 61, 32, 97, 100, 100, 40, 98, 44, 32, 45, 50, 41, 32, 35, 32, 115, 117, 109]⟩ : ByteArray)).pc)])] w2 (by kernel_rfl) ?_
  refine J.stBox S2 0 25 0 (.agg #[.int .i64 ((tkF (⟨#[97, 32, 61, 32, 97, 100, 100, 40, 98, 44, 32, 45, 50, 41, 32, 35, 32, 115, 117, 109]⟩ : ByteArray)).pl), .int .i64 ((tkF (⟨#[97, 32, 61, 32, 97, 100, 100, 40, 98, 44, 32, 45, 50, 41, 32, 35, 32, 115, 117, 109]⟩ : ByteArray)).pc)]) [.int .i64 ((tkF (⟨#[97, 32, 61, 32, 97, 100, 100, 40, 98, 44, 32, 45, 50, 41, 32, 35, 32, 115, 117, 109]⟩ : ByteArray)).pl), .int .i64 ((tkF (⟨#[97, 32, 61, 32, 97, 100, 100, 40, 98, 44, 32, 45, 50, 41, 32, 35, 32, 115, 117, 109]⟩ : ByteArray)).pc)] [box b1 [.int .i64 ((tkF (⟨#[97, 32, 61, 32, 97, 100, 100, 40, 98, 44, 32, 45, 50, 41, 32, 35, 32, 115, 117, 109]⟩ : ByteArray)).pl), .int .i64 ((tkF (⟨#[97, 32, 61, 32, 97, 100, 100, 40, 98, 44, 32, 45, 50, 41, 32, 35, 32, 115, 117, 109]⟩ : ByteArray)).pc)] 25, rowOf tkE ra1 rc1 36 4 ((tkF (⟨#[97, 32, 61, 32, 97, 100, 100, 40, 98, 44, 32, 45, 50, 41, 32, 35, 32, 115, 117, 109]⟩ : ByteArray)).l)] (by kernel_rfl) rfl (by kernel_rfl) (by kernel_rfl) rfl ?_
  intro w3 S3
  refine J.run 4 K9_3 [(3, .int .i64 ((tkF (⟨#[97, 32, 61, 32, 97, 100, 100, 40, 98, 44, 32, 45, 50, 41, 32, 35, 32, 115, 117, 109]⟩ : ByteArray)).e)), (1, .slice ra1 (((tkF (⟨#[97, 32, 61, 32, 97, 100, 100, 40, 98, 44, 32, 45, 50, 41, 32, 35, 32, 115, 117, 109]⟩ : ByteArray)).l).length) rc1), (2, .pointer (some ⟨b1, 0, none⟩))] w3 (by kernel_rfl) ?_
  refine J.callF 14 18 #[.string ⟨#[97, 100, 100]⟩] hb18 (by kernel_rfl) (kind_any (⟨#[97, 100, 100]⟩ : ByteArray) _) ?_
  rintro _ w4 ⟨rfl, T2⟩
  have S4 : Sep w [box b1 [.int .i64 ((tkF (⟨#[97, 32, 61, 32, 97, 100, 100, 40, 98, 44, 32, 45, 50, 41, 32, 35, 32, 115, 117, 109]⟩ : ByteArray)).pl), .int .i64 ((tkF (⟨#[97, 32, 61, 32, 97, 100, 100, 40, 98, 44, 32, 45, 50, 41, 32, 35, 32, 115, 117, 109]⟩ : ByteArray)).pc)] 25, rowOf tkE ra1 rc1 36 4 ((tkF (⟨#[97, 32, 61, 32, 97, 100, 100, 40, 98, 44, 32, 45, 50, 41, 32, 35, 32, 115, 117, 109]⟩ : ByteArray)).l)] w4 := S3.trans T2
  clear T2 S3
  refine J.run 15 K9_4 [(21, .bool (((tkF (⟨#[97, 32, 61, 32, 97, 100, 100, 40, 98, 44, 32, 45, 50, 41, 32, 35, 32, 115, 117, 109]⟩ : ByteArray)).e) == 0)), (7, .bool (kO (⟨#[97, 100, 100]⟩ : ByteArray))), (4, .int .i64 (kA (⟨#[97, 100, 100]⟩ : ByteArray))), (1, .slice ra1 (((tkF (⟨#[97, 32, 61, 32, 97, 100, 100, 40, 98, 44, 32, 45, 50, 41, 32, 35, 32, 115, 117, 109]⟩ : ByteArray)).l).length) rc1), (2, .pointer (some ⟨b1, 0, none⟩))] w4 (by kernel_rfl) ?_
  have fk2 : ((tkF (⟨#[97, 32, 61, 32, 97, 100, 100, 40, 98, 44, 32, 45, 50, 41, 32, 35, 32, 115, 117, 109]⟩ : ByteArray)).e) = 0 := by kernel_rfl
  refine J.head (.bool true) (congrArg Value.bool (beq_iff_eq.2 fk2)) ?_
  refine J.ok (OK.ldBox S4 0 22 25 0 (.agg #[.int .i64 ((tkF (⟨#[97, 32, 61, 32, 97, 100, 100, 40, 98, 44, 32, 45, 50, 41, 32, 35, 32, 115, 117, 109]⟩ : ByteArray)).pl), .int .i64 ((tkF (⟨#[97, 32, 61, 32, 97, 100, 100, 40, 98, 44, 32, 45, 50, 41, 32, 35, 32, 115, 117, 109]⟩ : ByteArray)).pc)]) (by kernel_rfl) rfl (by kernel_rfl)) ?_
  refine J.run 1 K9_5 [(23, .agg #[.int .i64 0, .int .i64 0]), (22, .agg #[.int .i64 ((tkF (⟨#[97, 32, 61, 32, 97, 100, 100, 40, 98, 44, 32, 45, 50, 41, 32, 35, 32, 115, 117, 109]⟩ : ByteArray)).pl), .int .i64 ((tkF (⟨#[97, 32, 61, 32, 97, 100, 100, 40, 98, 44, 32, 45, 50, 41, 32, 35, 32, 115, 117, 109]⟩ : ByteArray)).pc)]), (21, .bool true), (7, .bool (kO (⟨#[97, 100, 100]⟩ : ByteArray))), (4, .int .i64 (kA (⟨#[97, 100, 100]⟩ : ByteArray))), (1, .slice ra1 (((tkF (⟨#[97, 32, 61, 32, 97, 100, 100, 40, 98, 44, 32, 45, 50, 41, 32, 35, 32, 115, 117, 109]⟩ : ByteArray)).l).length) rc1)] w4 (by kernel_rfl) ?_
  refine J.ok (OK.eqS 24 true 25 #[.int .i64 ((tkF (⟨#[97, 32, 61, 32, 97, 100, 100, 40, 98, 44, 32, 45, 50, 41, 32, 35, 32, 115, 117, 109]⟩ : ByteArray)).pl), .int .i64 ((tkF (⟨#[97, 32, 61, 32, 97, 100, 100, 40, 98, 44, 32, 45, 50, 41, 32, 35, 32, 115, 117, 109]⟩ : ByteArray)).pc)] #[.int .i64 0, .int .i64 0] ((((tkF (⟨#[97, 32, 61, 32, 97, 100, 100, 40, 98, 44, 32, 45, 50, 41, 32, 35, 32, 115, 117, 109]⟩ : ByteArray)).pl) == 0) && ((((tkF (⟨#[97, 32, 61, 32, 97, 100, 100, 40, 98, 44, 32, 45, 50, 41, 32, 35, 32, 115, 117, 109]⟩ : ByteArray)).pc) == 0) && true)) (by kernel_rfl) (by kernel_rfl) (by kernel_rfl) ((((tkF (⟨#[97, 32, 61, 32, 97, 100, 100, 40, 98, 44, 32, 45, 50, 41, 32, 35, 32, 115, 117, 109]⟩ : ByteArray)).pl) == 0) && (((tkF (⟨#[97, 32, 61, 32, 97, 100, 100, 40, 98, 44, 32, 45, 50, 41, 32, 35, 32, 115, 117, 109]⟩ : ByteArray)).pc) == 0)) (by simp)) ?_
  refine J.run 2 K9_6 [(26, .bool ((((tkF (⟨#[97, 32, 61, 32, 97, 100, 100, 40, 98, 44, 32, 45, 50, 41, 32, 35, 32, 115, 117, 109]⟩ : ByteArray)).pl) == 0) && (((tkF (⟨#[97, 32, 61, 32, 97, 100, 100, 40, 98, 44, 32, 45, 50, 41, 32, 35, 32, 115, 117, 109]⟩ : ByteArray)).pc) == 0))), (7, .bool (kO (⟨#[97, 100, 100]⟩ : ByteArray))), (4, .int .i64 (kA (⟨#[97, 100, 100]⟩ : ByteArray))), (1, .slice ra1 (((tkF (⟨#[97, 32, 61, 32, 97, 100, 100, 40, 98, 44, 32, 45, 50, 41, 32, 35, 32, 115, 117, 109]⟩ : ByteArray)).l).length) rc1)] w4 (by kernel_rfl) ?_
  have fk4 : ((((tkF (⟨#[97, 32, 61, 32, 97, 100, 100, 40, 98, 44, 32, 45, 50, 41, 32, 35, 32, 115, 117, 109]⟩ : ByteArray)).pl) == 0) && (((tkF (⟨#[97, 32, 61, 32, 97, 100, 100, 40, 98, 44, 32, 45, 50, 41, 32, 35, 32, 115, 117, 109]⟩ : ByteArray)).pc) == 0)) = true := by kernel_rfl
  refine J.head (.bool true) (congrArg Value.bool fk4) ?_
  refine J.run 5 K9_7 [(31, .bool ((((tkF (⟨#[97, 32, 61, 32, 97, 100, 100, 40, 98, 44, 32, 45, 50, 41, 32, 35, 32, 115, 117, 109]⟩ : ByteArray)).l).length : Int) == 9)), (7, .bool (kO (⟨#[97, 100, 100]⟩ : ByteArray))), (4, .int .i64 (kA (⟨#[97, 100, 100]⟩ : ByteArray))), (1, .slice ra1 (((tkF (⟨#[97, 32, 61, 32, 97, 100, 100, 40, 98, 44, 32, 45, 50, 41, 32, 35, 32, 115, 117, 109]⟩ : ByteArray)).l).length) rc1)] w4 (by kernel_rfl) ?_
  have fk6 : (((tkF (⟨#[97, 32, 61, 32, 97, 100, 100, 40, 98, 44, 32, 45, 50, 41, 32, 35, 32, 115, 117, 109]⟩ : ByteArray)).l).length : Int) = 9 := by kernel_rfl
  refine J.head (.bool true) (congrArg Value.bool (beq_iff_eq.2 fk6)) ?_
  refine J.run 1 K9_8 [(32, .slice ra1 (((tkF (⟨#[97, 32, 61, 32, 97, 100, 100, 40, 98, 44, 32, 45, 50, 41, 32, 35, 32, 115, 117, 109]⟩ : ByteArray)).l).length) rc1), (31, .bool true), (7, .bool (kO (⟨#[97, 100, 100]⟩ : ByteArray))), (4, .int .i64 (kA (⟨#[97, 100, 100]⟩ : ByteArray))), (1, .slice ra1 (((tkF (⟨#[97, 32, 61, 32, 97, 100, 100, 40, 98, 44, 32, 45, 50, 41, 32, 35, 32, 115, 117, 109]⟩ : ByteArray)).l).length) rc1)] w4 (by kernel_rfl) ?_
  obtain ⟨p1, hp1, hc1⟩ := (rowOf_recs (S4.nth 1 rfl) _ rfl (fun _ => rfl) (by decide)).at (⟨0, ByteArray.empty, 0, 0⟩ : Tk) 6 (by omega)
  refine J.ok (OK.index 33 23 4 ra1 p1 (((tkF (⟨#[97, 32, 61, 32, 97, 100, 100, 40, 98, 44, 32, 45, 50, 41, 32, 35, 32, 115, 117, 109]⟩ : ByteArray)).l).length) 6 6 (p1.add (6 * 4)) (by kernel_rfl) (by kernel_rfl) hp1 (by omega) (by omega) rfl) ?_
  refine J.ok (OK.ldCells 34 36 (p1.add (6 * 4)) [.int .i64 ((((tkF (⟨#[97, 32, 61, 32, 97, 100, 100, 40, 98, 44, 32, 45, 50, 41, 32, 35, 32, 115, 117, 109]⟩ : ByteArray)).l).getD 6 (⟨0, ByteArray.empty, 0, 0⟩ : Tk)).gKind), .string ((((tkF (⟨#[97, 32, 61, 32, 97, 100, 100, 40, 98, 44, 32, 45, 50, 41, 32, 35, 32, 115, 117, 109]⟩ : ByteArray)).l).getD 6 (⟨0, ByteArray.empty, 0, 0⟩ : Tk)).gText), .int .i64 ((((tkF (⟨#[97, 32, 61, 32, 97, 100, 100, 40, 98, 44, 32, 45, 50, 41, 32, 35, 32, 115, 117, 109]⟩ : ByteArray)).l).getD 6 (⟨0, ByteArray.empty, 0, 0⟩ : Tk)).gPlace_Line), .int .i64 ((((tkF (⟨#[97, 32, 61, 32, 97, 100, 100, 40, 98, 44, 32, 45, 50, 41, 32, 35, 32, 115, 117, 109]⟩ : ByteArray)).l).getD 6 (⟨0, ByteArray.empty, 0, 0⟩ : Tk)).gPlace_Column)] (by kernel_rfl) (by kernel_rfl) (by kernel_rfl) hc1) ?_
  refine J.run 2 K9_9 [(36, .agg #[.int .i64 2, .string ⟨#[45, 50]⟩, .int .i64 1, .int .i64 12]), (34, .agg #[.int .i64 ((((tkF (⟨#[97, 32, 61, 32, 97, 100, 100, 40, 98, 44, 32, 45, 50, 41, 32, 35, 32, 115, 117, 109]⟩ : ByteArray)).l).getD 6 (⟨0, ByteArray.empty, 0, 0⟩ : Tk)).gKind), .string ((((tkF (⟨#[97, 32, 61, 32, 97, 100, 100, 40, 98, 44, 32, 45, 50, 41, 32, 35, 32, 115, 117, 109]⟩ : ByteArray)).l).getD 6 (⟨0, ByteArray.empty, 0, 0⟩ : Tk)).gText), .int .i64 ((((tkF (⟨#[97, 32, 61, 32, 97, 100, 100, 40, 98, 44, 32, 45, 50, 41, 32, 35, 32, 115, 117, 109]⟩ : ByteArray)).l).getD 6 (⟨0, ByteArray.empty, 0, 0⟩ : Tk)).gPlace_Line), .int .i64 ((((tkF (⟨#[97, 32, 61, 32, 97, 100, 100, 40, 98, 44, 32, 45, 50, 41, 32, 35, 32, 115, 117, 109]⟩ : ByteArray)).l).getD 6 (⟨0, ByteArray.empty, 0, 0⟩ : Tk)).gPlace_Column)]), (31, .bool true), (7, .bool (kO (⟨#[97, 100, 100]⟩ : ByteArray))), (4, .int .i64 (kA (⟨#[97, 100, 100]⟩ : ByteArray))), (1, .slice ra1 (((tkF (⟨#[97, 32, 61, 32, 97, 100, 100, 40, 98, 44, 32, 45, 50, 41, 32, 35, 32, 115, 117, 109]⟩ : ByteArray)).l).length) rc1)] w4 (by kernel_rfl) ?_
  refine J.ok (OK.eqS 37 true 36 #[.int .i64 ((((tkF (⟨#[97, 32, 61, 32, 97, 100, 100, 40, 98, 44, 32, 45, 50, 41, 32, 35, 32, 115, 117, 109]⟩ : ByteArray)).l).getD 6 (⟨0, ByteArray.empty, 0, 0⟩ : Tk)).gKind), .string ((((tkF (⟨#[97, 32, 61, 32, 97, 100, 100, 40, 98, 44, 32, 45, 50, 41, 32, 35, 32, 115, 117, 109]⟩ : ByteArray)).l).getD 6 (⟨0, ByteArray.empty, 0, 0⟩ : Tk)).gText), .int .i64 ((((tkF (⟨#[97, 32, 61, 32, 97, 100, 100, 40, 98, 44, 32, 45, 50, 41, 32, 35, 32, 115, 117, 109]⟩ : ByteArray)).l).getD 6 (⟨0, ByteArray.empty, 0, 0⟩ : Tk)).gPlace_Line), .int .i64 ((((tkF (⟨#[97, 32, 61, 32, 97, 100, 100, 40, 98, 44, 32, 45, 50, 41, 32, 35, 32, 115, 117, 109]⟩ : ByteArray)).l).getD 6 (⟨0, ByteArray.empty, 0, 0⟩ : Tk)).gPlace_Column)] #[.int .i64 2, .string ⟨#[45, 50]⟩, .int .i64 1, .int .i64 12] ((((((tkF (⟨#[97, 32, 61, 32, 97, 100, 100, 40, 98, 44, 32, 45, 50, 41, 32, 35, 32, 115, 117, 109]⟩ : ByteArray)).l).getD 6 (⟨0, ByteArray.empty, 0, 0⟩ : Tk)).gKind) == 2) && ((((((tkF (⟨#[97, 32, 61, 32, 97, 100, 100, 40, 98, 44, 32, 45, 50, 41, 32, 35, 32, 115, 117, 109]⟩ : ByteArray)).l).getD 6 (⟨0, ByteArray.empty, 0, 0⟩ : Tk)).gText).toList == (⟨#[45, 50]⟩ : ByteArray).toList) && (((((((tkF (⟨#[97, 32, 61, 32, 97, 100, 100, 40, 98, 44, 32, 45, 50, 41, 32, 35, 32, 115, 117, 109]⟩ : ByteArray)).l).getD 6 (⟨0, ByteArray.empty, 0, 0⟩ : Tk)).gPlace_Line) == 1) && ((((((tkF (⟨#[97, 32, 61, 32, 97, 100, 100, 40, 98, 44, 32, 45, 50, 41, 32, 35, 32, 115, 117, 109]⟩ : ByteArray)).l).getD 6 (⟨0, ByteArray.empty, 0, 0⟩ : Tk)).gPlace_Column) == 12) && true)) && true))) (by kernel_rfl) (by kernel_rfl) (by kernel_rfl) ((((((tkF (⟨#[97, 32, 61, 32, 97, 100, 100, 40, 98, 44, 32, 45, 50, 41, 32, 35, 32, 115, 117, 109]⟩ : ByteArray)).l).getD 6 (⟨0, ByteArray.empty, 0, 0⟩ : Tk)).gKind) == 2) && ((((((tkF (⟨#[97, 32, 61, 32, 97, 100, 100, 40, 98, 44, 32, 45, 50, 41, 32, 35, 32, 115, 117, 109]⟩ : ByteArray)).l).getD 6 (⟨0, ByteArray.empty, 0, 0⟩ : Tk)).gText).toList == (⟨#[45, 50]⟩ : ByteArray).toList) && ((((((tkF (⟨#[97, 32, 61, 32, 97, 100, 100, 40, 98, 44, 32, 45, 50, 41, 32, 35, 32, 115, 117, 109]⟩ : ByteArray)).l).getD 6 (⟨0, ByteArray.empty, 0, 0⟩ : Tk)).gPlace_Line) == 1) && (((((tkF (⟨#[97, 32, 61, 32, 97, 100, 100, 40, 98, 44, 32, 45, 50, 41, 32, 35, 32, 115, 117, 109]⟩ : ByteArray)).l).getD 6 (⟨0, ByteArray.empty, 0, 0⟩ : Tk)).gPlace_Column) == 12)))) (by simp)) ?_
  refine J.run 2 K9_10 [(39, .bool ((((((tkF (⟨#[97, 32, 61, 32, 97, 100, 100, 40, 98, 44, 32, 45, 50, 41, 32, 35, 32, 115, 117, 109]⟩ : ByteArray)).l).getD 6 (⟨0, ByteArray.empty, 0, 0⟩ : Tk)).gKind) == 2) && ((((((tkF (⟨#[97, 32, 61, 32, 97, 100, 100, 40, 98, 44, 32, 45, 50, 41, 32, 35, 32, 115, 117, 109]⟩ : ByteArray)).l).getD 6 (⟨0, ByteArray.empty, 0, 0⟩ : Tk)).gText).toList == (⟨#[45, 50]⟩ : ByteArray).toList) && ((((((tkF (⟨#[97, 32, 61, 32, 97, 100, 100, 40, 98, 44, 32, 45, 50, 41, 32, 35, 32, 115, 117, 109]⟩ : ByteArray)).l).getD 6 (⟨0, ByteArray.empty, 0, 0⟩ : Tk)).gPlace_Line) == 1) && (((((tkF (⟨#[97, 32, 61, 32, 97, 100, 100, 40, 98, 44, 32, 45, 50, 41, 32, 35, 32, 115, 117, 109]⟩ : ByteArray)).l).getD 6 (⟨0, ByteArray.empty, 0, 0⟩ : Tk)).gPlace_Column) == 12))))), (7, .bool (kO (⟨#[97, 100, 100]⟩ : ByteArray))), (4, .int .i64 (kA (⟨#[97, 100, 100]⟩ : ByteArray))), (1, .slice ra1 (((tkF (⟨#[97, 32, 61, 32, 97, 100, 100, 40, 98, 44, 32, 45, 50, 41, 32, 35, 32, 115, 117, 109]⟩ : ByteArray)).l).length) rc1)] w4 (by kernel_rfl) ?_
  have fk8 : ((((((tkF (⟨#[97, 32, 61, 32, 97, 100, 100, 40, 98, 44, 32, 45, 50, 41, 32, 35, 32, 115, 117, 109]⟩ : ByteArray)).l).getD 6 (⟨0, ByteArray.empty, 0, 0⟩ : Tk)).gKind) == 2) && ((((((tkF (⟨#[97, 32, 61, 32, 97, 100, 100, 40, 98, 44, 32, 45, 50, 41, 32, 35, 32, 115, 117, 109]⟩ : ByteArray)).l).getD 6 (⟨0, ByteArray.empty, 0, 0⟩ : Tk)).gText).toList == (⟨#[45, 50]⟩ : ByteArray).toList) && ((((((tkF (⟨#[97, 32, 61, 32, 97, 100, 100, 40, 98, 44, 32, 45, 50, 41, 32, 35, 32, 115, 117, 109]⟩ : ByteArray)).l).getD 6 (⟨0, ByteArray.empty, 0, 0⟩ : Tk)).gPlace_Line) == 1) && (((((tkF (⟨#[97, 32, 61, 32, 97, 100, 100, 40, 98, 44, 32, 45, 50, 41, 32, 35, 32, 115, 117, 109]⟩ : ByteArray)).l).getD 6 (⟨0, ByteArray.empty, 0, 0⟩ : Tk)).gPlace_Column) == 12)))) = true := by kernel_rfl
  refine J.head (.bool true) (congrArg Value.bool fk8) ?_
  refine J.run 1 K9_11 [(40, .slice ra1 (((tkF (⟨#[97, 32, 61, 32, 97, 100, 100, 40, 98, 44, 32, 45, 50, 41, 32, 35, 32, 115, 117, 109]⟩ : ByteArray)).l).length) rc1), (39, .bool true), (7, .bool (kO (⟨#[97, 100, 100]⟩ : ByteArray))), (4, .int .i64 (kA (⟨#[97, 100, 100]⟩ : ByteArray)))] w4 (by kernel_rfl) ?_
  obtain ⟨p2, hp2, hc2⟩ := (rowOf_recs (S4.nth 1 rfl) _ rfl (fun _ => rfl) (by decide)).at (⟨0, ByteArray.empty, 0, 0⟩ : Tk) 8 (by omega)
  refine J.ok (OK.index 41 23 4 ra1 p2 (((tkF (⟨#[97, 32, 61, 32, 97, 100, 100, 40, 98, 44, 32, 45, 50, 41, 32, 35, 32, 115, 117, 109]⟩ : ByteArray)).l).length) 8 8 (p2.add (8 * 4)) (by kernel_rfl) (by kernel_rfl) hp2 (by omega) (by omega) rfl) ?_
  refine J.ok (OK.ldCells 42 36 (p2.add (8 * 4)) [.int .i64 ((((tkF (⟨#[97, 32, 61, 32, 97, 100, 100, 40, 98, 44, 32, 45, 50, 41, 32, 35, 32, 115, 117, 109]⟩ : ByteArray)).l).getD 8 (⟨0, ByteArray.empty, 0, 0⟩ : Tk)).gKind), .string ((((tkF (⟨#[97, 32, 61, 32, 97, 100, 100, 40, 98, 44, 32, 45, 50, 41, 32, 35, 32, 115, 117, 109]⟩ : ByteArray)).l).getD 8 (⟨0, ByteArray.empty, 0, 0⟩ : Tk)).gText), .int .i64 ((((tkF (⟨#[97, 32, 61, 32, 97, 100, 100, 40, 98, 44, 32, 45, 50, 41, 32, 35, 32, 115, 117, 109]⟩ : ByteArray)).l).getD 8 (⟨0, ByteArray.empty, 0, 0⟩ : Tk)).gPlace_Line), .int .i64 ((((tkF (⟨#[97, 32, 61, 32, 97, 100, 100, 40, 98, 44, 32, 45, 50, 41, 32, 35, 32, 115, 117, 109]⟩ : ByteArray)).l).getD 8 (⟨0, ByteArray.empty, 0, 0⟩ : Tk)).gPlace_Column)] (by kernel_rfl) (by kernel_rfl) (by kernel_rfl) hc2) ?_
  refine J.run 2 K9_12 [(44, .agg #[.int .i64 4, .string ByteArray.empty, .int .i64 1, .int .i64 21]), (42, .agg #[.int .i64 ((((tkF (⟨#[97, 32, 61, 32, 97, 100, 100, 40, 98, 44, 32, 45, 50, 41, 32, 35, 32, 115, 117, 109]⟩ : ByteArray)).l).getD 8 (⟨0, ByteArray.empty, 0, 0⟩ : Tk)).gKind), .string ((((tkF (⟨#[97, 32, 61, 32, 97, 100, 100, 40, 98, 44, 32, 45, 50, 41, 32, 35, 32, 115, 117, 109]⟩ : ByteArray)).l).getD 8 (⟨0, ByteArray.empty, 0, 0⟩ : Tk)).gText), .int .i64 ((((tkF (⟨#[97, 32, 61, 32, 97, 100, 100, 40, 98, 44, 32, 45, 50, 41, 32, 35, 32, 115, 117, 109]⟩ : ByteArray)).l).getD 8 (⟨0, ByteArray.empty, 0, 0⟩ : Tk)).gPlace_Line), .int .i64 ((((tkF (⟨#[97, 32, 61, 32, 97, 100, 100, 40, 98, 44, 32, 45, 50, 41, 32, 35, 32, 115, 117, 109]⟩ : ByteArray)).l).getD 8 (⟨0, ByteArray.empty, 0, 0⟩ : Tk)).gPlace_Column)]), (39, .bool true), (7, .bool (kO (⟨#[97, 100, 100]⟩ : ByteArray))), (4, .int .i64 (kA (⟨#[97, 100, 100]⟩ : ByteArray)))] w4 (by kernel_rfl) ?_
  refine J.ok (OK.eqS 45 true 36 #[.int .i64 ((((tkF (⟨#[97, 32, 61, 32, 97, 100, 100, 40, 98, 44, 32, 45, 50, 41, 32, 35, 32, 115, 117, 109]⟩ : ByteArray)).l).getD 8 (⟨0, ByteArray.empty, 0, 0⟩ : Tk)).gKind), .string ((((tkF (⟨#[97, 32, 61, 32, 97, 100, 100, 40, 98, 44, 32, 45, 50, 41, 32, 35, 32, 115, 117, 109]⟩ : ByteArray)).l).getD 8 (⟨0, ByteArray.empty, 0, 0⟩ : Tk)).gText), .int .i64 ((((tkF (⟨#[97, 32, 61, 32, 97, 100, 100, 40, 98, 44, 32, 45, 50, 41, 32, 35, 32, 115, 117, 109]⟩ : ByteArray)).l).getD 8 (⟨0, ByteArray.empty, 0, 0⟩ : Tk)).gPlace_Line), .int .i64 ((((tkF (⟨#[97, 32, 61, 32, 97, 100, 100, 40, 98, 44, 32, 45, 50, 41, 32, 35, 32, 115, 117, 109]⟩ : ByteArray)).l).getD 8 (⟨0, ByteArray.empty, 0, 0⟩ : Tk)).gPlace_Column)] #[.int .i64 4, .string ByteArray.empty, .int .i64 1, .int .i64 21] ((((((tkF (⟨#[97, 32, 61, 32, 97, 100, 100, 40, 98, 44, 32, 45, 50, 41, 32, 35, 32, 115, 117, 109]⟩ : ByteArray)).l).getD 8 (⟨0, ByteArray.empty, 0, 0⟩ : Tk)).gKind) == 4) && ((((((tkF (⟨#[97, 32, 61, 32, 97, 100, 100, 40, 98, 44, 32, 45, 50, 41, 32, 35, 32, 115, 117, 109]⟩ : ByteArray)).l).getD 8 (⟨0, ByteArray.empty, 0, 0⟩ : Tk)).gText).toList == ByteArray.empty.toList) && (((((((tkF (⟨#[97, 32, 61, 32, 97, 100, 100, 40, 98, 44, 32, 45, 50, 41, 32, 35, 32, 115, 117, 109]⟩ : ByteArray)).l).getD 8 (⟨0, ByteArray.empty, 0, 0⟩ : Tk)).gPlace_Line) == 1) && ((((((tkF (⟨#[97, 32, 61, 32, 97, 100, 100, 40, 98, 44, 32, 45, 50, 41, 32, 35, 32, 115, 117, 109]⟩ : ByteArray)).l).getD 8 (⟨0, ByteArray.empty, 0, 0⟩ : Tk)).gPlace_Column) == 21) && true)) && true))) (by kernel_rfl) (by kernel_rfl) (by kernel_rfl) ((((((tkF (⟨#[97, 32, 61, 32, 97, 100, 100, 40, 98, 44, 32, 45, 50, 41, 32, 35, 32, 115, 117, 109]⟩ : ByteArray)).l).getD 8 (⟨0, ByteArray.empty, 0, 0⟩ : Tk)).gKind) == 4) && ((((((tkF (⟨#[97, 32, 61, 32, 97, 100, 100, 40, 98, 44, 32, 45, 50, 41, 32, 35, 32, 115, 117, 109]⟩ : ByteArray)).l).getD 8 (⟨0, ByteArray.empty, 0, 0⟩ : Tk)).gText).toList == ByteArray.empty.toList) && ((((((tkF (⟨#[97, 32, 61, 32, 97, 100, 100, 40, 98, 44, 32, 45, 50, 41, 32, 35, 32, 115, 117, 109]⟩ : ByteArray)).l).getD 8 (⟨0, ByteArray.empty, 0, 0⟩ : Tk)).gPlace_Line) == 1) && (((((tkF (⟨#[97, 32, 61, 32, 97, 100, 100, 40, 98, 44, 32, 45, 50, 41, 32, 35, 32, 115, 117, 109]⟩ : ByteArray)).l).getD 8 (⟨0, ByteArray.empty, 0, 0⟩ : Tk)).gPlace_Column) == 21)))) (by simp)) ?_
  refine J.run 2 K9_13 [(47, .bool ((((((tkF (⟨#[97, 32, 61, 32, 97, 100, 100, 40, 98, 44, 32, 45, 50, 41, 32, 35, 32, 115, 117, 109]⟩ : ByteArray)).l).getD 8 (⟨0, ByteArray.empty, 0, 0⟩ : Tk)).gKind) == 4) && ((((((tkF (⟨#[97, 32, 61, 32, 97, 100, 100, 40, 98, 44, 32, 45, 50, 41, 32, 35, 32, 115, 117, 109]⟩ : ByteArray)).l).getD 8 (⟨0, ByteArray.empty, 0, 0⟩ : Tk)).gText).toList == ByteArray.empty.toList) && ((((((tkF (⟨#[97, 32, 61, 32, 97, 100, 100, 40, 98, 44, 32, 45, 50, 41, 32, 35, 32, 115, 117, 109]⟩ : ByteArray)).l).getD 8 (⟨0, ByteArray.empty, 0, 0⟩ : Tk)).gPlace_Line) == 1) && (((((tkF (⟨#[97, 32, 61, 32, 97, 100, 100, 40, 98, 44, 32, 45, 50, 41, 32, 35, 32, 115, 117, 109]⟩ : ByteArray)).l).getD 8 (⟨0, ByteArray.empty, 0, 0⟩ : Tk)).gPlace_Column) == 21))))), (7, .bool (kO (⟨#[97, 100, 100]⟩ : ByteArray))), (4, .int .i64 (kA (⟨#[97, 100, 100]⟩ : ByteArray)))] w4 (by kernel_rfl) ?_
  have fk10 : ((((((tkF (⟨#[97, 32, 61, 32, 97, 100, 100, 40, 98, 44, 32, 45, 50, 41, 32, 35, 32, 115, 117, 109]⟩ : ByteArray)).l).getD 8 (⟨0, ByteArray.empty, 0, 0⟩ : Tk)).gKind) == 4) && ((((((tkF (⟨#[97, 32, 61, 32, 97, 100, 100, 40, 98, 44, 32, 45, 50, 41, 32, 35, 32, 115, 117, 109]⟩ : ByteArray)).l).getD 8 (⟨0, ByteArray.empty, 0, 0⟩ : Tk)).gText).toList == ByteArray.empty.toList) && ((((((tkF (⟨#[97, 32, 61, 32, 97, 100, 100, 40, 98, 44, 32, 45, 50, 41, 32, 35, 32, 115, 117, 109]⟩ : ByteArray)).l).getD 8 (⟨0, ByteArray.empty, 0, 0⟩ : Tk)).gPlace_Line) == 1) && (((((tkF (⟨#[97, 32, 61, 32, 97, 100, 100, 40, 98, 44, 32, 45, 50, 41, 32, 35, 32, 115, 117, 109]⟩ : ByteArray)).l).getD 8 (⟨0, ByteArray.empty, 0, 0⟩ : Tk)).gPlace_Column) == 21)))) = true := by kernel_rfl
  refine J.head (.bool true) (congrArg Value.bool fk10) ?_
  refine J.run 3 K9_14 [(50, .bool (kO (⟨#[97, 100, 100]⟩ : ByteArray))), (4, .int .i64 (kA (⟨#[97, 100, 100]⟩ : ByteArray)))] w4 (by kernel_rfl) ?_
  have fk12 : (kO (⟨#[97, 100, 100]⟩ : ByteArray)) = true := by kernel_rfl
  refine J.head (.bool true) (congrArg Value.bool fk12) ?_
  refine J.run 5 K9_15 [(0, .bool ((kA (⟨#[97, 100, 100]⟩ : ByteArray)) == 2))] w4 (by kernel_rfl) ?_
  refine J.ret Tryd.f9 [.bool ((kA (⟨#[97, 100, 100]⟩ : ByteArray)) == 2)] Tryd.func9 ⟨by kernel_rfl, trivial⟩ ?_
  refine hR _ _ ?_
  exact ⟨congrArg Value.bool (by kernel_rfl), S4.nil⟩

theorem hb3 : HasBody Tryd.prog 3 := fun _ _ => by kernel_rfl
noncomputable def K3_0 : List Item := adv 7 [] (bodyOf Tryd.f3)
noncomputable def K3_1 : List Item := adv 11 [false] (popK K3_0)
noncomputable def K3_2 : List Item := adv 5 [] K3_1
noncomputable def K3_3 : List Item := adv 5 [true] K3_2
noncomputable def K3_4 : List Item := adv 5 [false] K3_2
noncomputable def K3_5 : List Item := adv 4 [] (popK K3_4)
noncomputable def K3_6 : List Item := adv 1 [] (popK K3_5)
noncomputable def K3_7 : List Item := adv 5 [] (popK K3_6)
noncomputable def K3_8 : List Item := adv 4 [] (popK K3_7)
noncomputable def K3_9 : List Item := adv 1 [] (popK K3_8)
noncomputable def K3_10 : List Item := adv 7 [] (popK K3_9)
noncomputable def K3_11 : List Item := adv 1 [] K3_10
noncomputable def K3_12 : List Item := adv 4 [] (popK (popK (popK K3_11)))
noncomputable def K3_13 : List Item := adv 3 [] (popK K3_12)
noncomputable def K3_14 : List Item := adv 10 [false] K3_1
noncomputable def K3_15 : List Item := adv 4 [] (popK K3_14)
noncomputable def K3_16 : List Item := adv 1 [] (popK K3_15)
noncomputable def K3_17 : List Item := adv 5 [] (popK K3_16)
noncomputable def K3_18 : List Item := adv 4 [] (popK K3_17)
noncomputable def K3_19 : List Item := adv 1 [] (popK K3_18)
noncomputable def K3_20 : List Item := adv 7 [] (popK K3_19)
noncomputable def K3_21 : List Item := adv 1 [] K3_20
noncomputable def K3_22 : List Item := adv 4 [] (popK (popK (popK K3_21)))
noncomputable def K3_23 : List Item := adv 3 [] (popK K3_22)
set_option maxRecDepth 20000 in
set_option maxHeartbeats 20000000 in
theorem lawtokens_any (s : ByteArray) (w : World) (hW : TabW w) (hsb : s.size ≤ 9223372036854775807) : Ret Tryd.prog 3 #[.string s] w (fun v w' => v = .bool true ∧ Sep w [] w') := by
  have S0 := Sep.refl w
  refine Ret.named fun R hR => ?_
  refine Ret.of_J (N := 44) [(0, .string s)] Tryd.func3 rfl rfl (Nat.le_of_ble_eq_true (by kernel_rfl)) (by kernel_rfl) ?_
  have htl := tkF_len s
  refine J.run 7 K3_0 [(0, .string s)] w (by kernel_rfl) ?_
  refine J.callF 9 9 #[] hb9 (by kernel_rfl) (awake_any  _ (tabW_sep hW S0)) ?_
  rintro _ w1 ⟨rfl, T1⟩
  have S1 : Sep w [] w1 := S0.trans T1
  clear T1
  refine J.run 11 K3_1 [(14, .bool (decide ((s.size : Int) > 2000))), (0, .string s)] w1 (by kernel_rfl) ?_
  by_cases fk1 : (s.size : Int) > 2000
  · skip
    refine J.head (.bool true) (congrArg Value.bool (decide_eq_true fk1)) ?_
    refine J.run 5 K3_2 [(18, .bool (decide ((s.size : Int) ≤ 16384))), (0, .string s)] w1 (by kernel_rfl) ?_
    by_cases fk2 : (s.size : Int) ≤ 16384
    · skip
      refine J.head (.bool true) (congrArg Value.bool (decide_eq_true fk2)) ?_
      refine J.run 5 K3_3 [(2, .bool true)] w1 (by kernel_rfl) ?_
      refine J.ret Tryd.f3 [.bool true] Tryd.func3 ⟨by kernel_rfl, trivial⟩ ?_
      refine hR _ _ ?_
      exact ⟨rfl, S1.nil⟩
    · skip
      refine J.head (.bool false) (congrArg Value.bool (decide_eq_false fk2)) ?_
      refine J.run 5 K3_4 [(20, .string s), (0, .string s)] w1 (by kernel_rfl) ?_
      refine J.callF 21 10 #[.string s] hb10 (by kernel_rfl) (tokens_any s _ (by omega) (tabW_sep hW S1)) ?_
      rintro _ w2 ⟨ra1, rc1, rfl, T2⟩
      have S2 : Sep w [rowOf tkE ra1 rc1 36 4 ((tkF s).l)] w2 := S1.trans T2
      clear T2 S1
      refine J.run 4 K3_5 [(24, .int .i64 ((tkF s).e)), (23, .agg #[.int .i64 ((tkF s).pl), .int .i64 ((tkF s).pc)]), (22, .slice ra1 (((tkF s).l).length) rc1), (0, .string s)] w2 (by kernel_rfl) ?_
      refine J.new S2 4 [.int .i64 0, .int .i64 0] 25 (by kernel_rfl) ?_
      intro b1 w3 S3
      refine J.run 1 K3_6 [(3, .slice ra1 (((tkF s).l).length) rc1), (4, .pointer (some ⟨b1, 0, none⟩)), (24, .int .i64 ((tkF s).e)), (23, .agg #[.int .i64 ((tkF s).pl), .int .i64 ((tkF s).pc)]), (0, .string s)] w3 (by kernel_rfl) ?_
      refine J.stBox S3 0 25 0 (.agg #[.int .i64 ((tkF s).pl), .int .i64 ((tkF s).pc)]) [.int .i64 ((tkF s).pl), .int .i64 ((tkF s).pc)] [box b1 [.int .i64 ((tkF s).pl), .int .i64 ((tkF s).pc)] 25, rowOf tkE ra1 rc1 36 4 ((tkF s).l)] (by kernel_rfl) rfl (by kernel_rfl) (by kernel_rfl) rfl ?_
      intro w4 S4
      refine J.run 5 K3_7 [(26, .string s), (5, .int .i64 ((tkF s).e)), (3, .slice ra1 (((tkF s).l).length) rc1), (4, .pointer (some ⟨b1, 0, none⟩))] w4 (by kernel_rfl) ?_
      refine J.callF 27 11 #[.string s] hb11 (by kernel_rfl) (rtokens_any s _ (by omega)) ?_
      rintro _ w5 ⟨ra2, rc2, rfl, T3⟩
      have S5 : Sep w [rowOf tkE ra2 rc2 36 4 ((tkF s).l), box b1 [.int .i64 ((tkF s).pl), .int .i64 ((tkF s).pc)] 25, rowOf tkE ra1 rc1 36 4 ((tkF s).l)] w5 := S4.trans T3
      clear T3 S4
      refine J.run 4 K3_8 [(30, .int .i64 ((tkF s).e)), (29, .agg #[.int .i64 ((tkF s).pl), .int .i64 ((tkF s).pc)]), (28, .slice ra2 (((tkF s).l).length) rc2), (5, .int .i64 ((tkF s).e)), (3, .slice ra1 (((tkF s).l).length) rc1), (4, .pointer (some ⟨b1, 0, none⟩))] w5 (by kernel_rfl) ?_
      refine J.new S5 7 [.int .i64 0, .int .i64 0] 25 (by kernel_rfl) ?_
      intro b2 w6 S6
      refine J.run 1 K3_9 [(6, .slice ra2 (((tkF s).l).length) rc2), (7, .pointer (some ⟨b2, 0, none⟩)), (30, .int .i64 ((tkF s).e)), (29, .agg #[.int .i64 ((tkF s).pl), .int .i64 ((tkF s).pc)]), (5, .int .i64 ((tkF s).e)), (3, .slice ra1 (((tkF s).l).length) rc1), (4, .pointer (some ⟨b1, 0, none⟩))] w6 (by kernel_rfl) ?_
      refine J.stBox S6 0 25 0 (.agg #[.int .i64 ((tkF s).pl), .int .i64 ((tkF s).pc)]) [.int .i64 ((tkF s).pl), .int .i64 ((tkF s).pc)] [box b2 [.int .i64 ((tkF s).pl), .int .i64 ((tkF s).pc)] 25, rowOf tkE ra2 rc2 36 4 ((tkF s).l), box b1 [.int .i64 ((tkF s).pl), .int .i64 ((tkF s).pc)] 25, rowOf tkE ra1 rc1 36 4 ((tkF s).l)] (by kernel_rfl) rfl (by kernel_rfl) (by kernel_rfl) rfl ?_
      intro w7 S7
      refine J.run 7 K3_10 [(33, .bool (((tkF s).e) == ((tkF s).e))), (6, .slice ra2 (((tkF s).l).length) rc2), (7, .pointer (some ⟨b2, 0, none⟩)), (3, .slice ra1 (((tkF s).l).length) rc1), (4, .pointer (some ⟨b1, 0, none⟩))] w7 (by kernel_rfl) ?_
      refine J.head (.bool true) (congrArg Value.bool (by simp)) ?_
      refine J.run 1 K3_11 [(34, .bool true), (6, .slice ra2 (((tkF s).l).length) rc2), (7, .pointer (some ⟨b2, 0, none⟩)), (3, .slice ra1 (((tkF s).l).length) rc1), (4, .pointer (some ⟨b1, 0, none⟩))] w7 (by kernel_rfl) ?_
      refine J.ok (OK.ldBox S7 2 35 25 0 (.agg #[.int .i64 ((tkF s).pl), .int .i64 ((tkF s).pc)]) (by kernel_rfl) rfl (by kernel_rfl)) ?_
      refine J.ok (OK.ldBox S7 0 36 25 0 (.agg #[.int .i64 ((tkF s).pl), .int .i64 ((tkF s).pc)]) (by kernel_rfl) rfl (by kernel_rfl)) ?_
      refine J.ok (OK.eqS 37 true 25 #[.int .i64 ((tkF s).pl), .int .i64 ((tkF s).pc)] #[.int .i64 ((tkF s).pl), .int .i64 ((tkF s).pc)] ((((tkF s).pl) == ((tkF s).pl)) && ((((tkF s).pc) == ((tkF s).pc)) && true)) (by kernel_rfl) (by kernel_rfl) (by kernel_rfl) true (by simp)) ?_
      refine J.run 4 K3_12 [(41, .slice ra2 (((tkF s).l).length) rc2), (40, .slice ra1 (((tkF s).l).length) rc1), (39, .bool true)] w7 (by kernel_rfl) ?_
      refine J.callF 42 12 #[.slice ra1 (((tkF s).l).length) rc1, .slice ra2 (((tkF s).l).length) rc2] hb12 (by kernel_rfl) (same_any ra1 (((tkF s).l).length) rc1 ((tkF s).l) ra2 (((tkF s).l).length) rc2 ((tkF s).l) _ ((rowOf_recs (S7.nth 3 rfl) _ rfl (fun _ => rfl) (by decide))) ((rowOf_recs (S7.nth 1 rfl) _ rfl (fun _ => rfl) (by decide))) (by first | omega | (simp; omega))) ?_
      rintro _ w8 ⟨rfl, T4⟩
      have S8 : Sep w [box b2 [.int .i64 ((tkF s).pl), .int .i64 ((tkF s).pc)] 25, rowOf tkE ra2 rc2 36 4 ((tkF s).l), box b1 [.int .i64 ((tkF s).pl), .int .i64 ((tkF s).pc)] 25, rowOf tkE ra1 rc1 36 4 ((tkF s).l)] w8 := S7.trans T4
      clear T4 S7
      refine J.head (.bool true) (congrArg Value.bool (sameT_refl _)) ?_
      refine J.run 3 K3_13 [(2, .bool true)] w8 (by kernel_rfl) ?_
      refine J.ret Tryd.f3 [.bool true] Tryd.func3 ⟨by kernel_rfl, trivial⟩ ?_
      refine hR _ _ ?_
      exact ⟨rfl, S8.nil⟩
  · skip
    refine J.head (.bool false) (congrArg Value.bool (decide_eq_false fk1)) ?_
    refine J.run 10 K3_14 [(20, .string s), (0, .string s)] w1 (by kernel_rfl) ?_
    refine J.callF 21 10 #[.string s] hb10 (by kernel_rfl) (tokens_any s _ (by omega) (tabW_sep hW S1)) ?_
    rintro _ w9 ⟨ra3, rc3, rfl, T5⟩
    have S9 : Sep w [rowOf tkE ra3 rc3 36 4 ((tkF s).l)] w9 := S1.trans T5
    clear T5 S1
    refine J.run 4 K3_15 [(24, .int .i64 ((tkF s).e)), (23, .agg #[.int .i64 ((tkF s).pl), .int .i64 ((tkF s).pc)]), (22, .slice ra3 (((tkF s).l).length) rc3), (0, .string s)] w9 (by kernel_rfl) ?_
    refine J.new S9 4 [.int .i64 0, .int .i64 0] 25 (by kernel_rfl) ?_
    intro b3 w10 S10
    refine J.run 1 K3_16 [(3, .slice ra3 (((tkF s).l).length) rc3), (4, .pointer (some ⟨b3, 0, none⟩)), (24, .int .i64 ((tkF s).e)), (23, .agg #[.int .i64 ((tkF s).pl), .int .i64 ((tkF s).pc)]), (0, .string s)] w10 (by kernel_rfl) ?_
    refine J.stBox S10 0 25 0 (.agg #[.int .i64 ((tkF s).pl), .int .i64 ((tkF s).pc)]) [.int .i64 ((tkF s).pl), .int .i64 ((tkF s).pc)] [box b3 [.int .i64 ((tkF s).pl), .int .i64 ((tkF s).pc)] 25, rowOf tkE ra3 rc3 36 4 ((tkF s).l)] (by kernel_rfl) rfl (by kernel_rfl) (by kernel_rfl) rfl ?_
    intro w11 S11
    refine J.run 5 K3_17 [(26, .string s), (5, .int .i64 ((tkF s).e)), (3, .slice ra3 (((tkF s).l).length) rc3), (4, .pointer (some ⟨b3, 0, none⟩))] w11 (by kernel_rfl) ?_
    refine J.callF 27 11 #[.string s] hb11 (by kernel_rfl) (rtokens_any s _ (by omega)) ?_
    rintro _ w12 ⟨ra4, rc4, rfl, T6⟩
    have S12 : Sep w [rowOf tkE ra4 rc4 36 4 ((tkF s).l), box b3 [.int .i64 ((tkF s).pl), .int .i64 ((tkF s).pc)] 25, rowOf tkE ra3 rc3 36 4 ((tkF s).l)] w12 := S11.trans T6
    clear T6 S11
    refine J.run 4 K3_18 [(30, .int .i64 ((tkF s).e)), (29, .agg #[.int .i64 ((tkF s).pl), .int .i64 ((tkF s).pc)]), (28, .slice ra4 (((tkF s).l).length) rc4), (5, .int .i64 ((tkF s).e)), (3, .slice ra3 (((tkF s).l).length) rc3), (4, .pointer (some ⟨b3, 0, none⟩))] w12 (by kernel_rfl) ?_
    refine J.new S12 7 [.int .i64 0, .int .i64 0] 25 (by kernel_rfl) ?_
    intro b4 w13 S13
    refine J.run 1 K3_19 [(6, .slice ra4 (((tkF s).l).length) rc4), (7, .pointer (some ⟨b4, 0, none⟩)), (30, .int .i64 ((tkF s).e)), (29, .agg #[.int .i64 ((tkF s).pl), .int .i64 ((tkF s).pc)]), (5, .int .i64 ((tkF s).e)), (3, .slice ra3 (((tkF s).l).length) rc3), (4, .pointer (some ⟨b3, 0, none⟩))] w13 (by kernel_rfl) ?_
    refine J.stBox S13 0 25 0 (.agg #[.int .i64 ((tkF s).pl), .int .i64 ((tkF s).pc)]) [.int .i64 ((tkF s).pl), .int .i64 ((tkF s).pc)] [box b4 [.int .i64 ((tkF s).pl), .int .i64 ((tkF s).pc)] 25, rowOf tkE ra4 rc4 36 4 ((tkF s).l), box b3 [.int .i64 ((tkF s).pl), .int .i64 ((tkF s).pc)] 25, rowOf tkE ra3 rc3 36 4 ((tkF s).l)] (by kernel_rfl) rfl (by kernel_rfl) (by kernel_rfl) rfl ?_
    intro w14 S14
    refine J.run 7 K3_20 [(33, .bool (((tkF s).e) == ((tkF s).e))), (6, .slice ra4 (((tkF s).l).length) rc4), (7, .pointer (some ⟨b4, 0, none⟩)), (3, .slice ra3 (((tkF s).l).length) rc3), (4, .pointer (some ⟨b3, 0, none⟩))] w14 (by kernel_rfl) ?_
    refine J.head (.bool true) (congrArg Value.bool (by simp)) ?_
    refine J.run 1 K3_21 [(34, .bool true), (6, .slice ra4 (((tkF s).l).length) rc4), (7, .pointer (some ⟨b4, 0, none⟩)), (3, .slice ra3 (((tkF s).l).length) rc3), (4, .pointer (some ⟨b3, 0, none⟩))] w14 (by kernel_rfl) ?_
    refine J.ok (OK.ldBox S14 2 35 25 0 (.agg #[.int .i64 ((tkF s).pl), .int .i64 ((tkF s).pc)]) (by kernel_rfl) rfl (by kernel_rfl)) ?_
    refine J.ok (OK.ldBox S14 0 36 25 0 (.agg #[.int .i64 ((tkF s).pl), .int .i64 ((tkF s).pc)]) (by kernel_rfl) rfl (by kernel_rfl)) ?_
    refine J.ok (OK.eqS 37 true 25 #[.int .i64 ((tkF s).pl), .int .i64 ((tkF s).pc)] #[.int .i64 ((tkF s).pl), .int .i64 ((tkF s).pc)] ((((tkF s).pl) == ((tkF s).pl)) && ((((tkF s).pc) == ((tkF s).pc)) && true)) (by kernel_rfl) (by kernel_rfl) (by kernel_rfl) true (by simp)) ?_
    refine J.run 4 K3_22 [(41, .slice ra4 (((tkF s).l).length) rc4), (40, .slice ra3 (((tkF s).l).length) rc3), (39, .bool true)] w14 (by kernel_rfl) ?_
    refine J.callF 42 12 #[.slice ra3 (((tkF s).l).length) rc3, .slice ra4 (((tkF s).l).length) rc4] hb12 (by kernel_rfl) (same_any ra3 (((tkF s).l).length) rc3 ((tkF s).l) ra4 (((tkF s).l).length) rc4 ((tkF s).l) _ ((rowOf_recs (S14.nth 3 rfl) _ rfl (fun _ => rfl) (by decide))) ((rowOf_recs (S14.nth 1 rfl) _ rfl (fun _ => rfl) (by decide))) (by first | omega | (simp; omega))) ?_
    rintro _ w15 ⟨rfl, T7⟩
    have S15 : Sep w [box b4 [.int .i64 ((tkF s).pl), .int .i64 ((tkF s).pc)] 25, rowOf tkE ra4 rc4 36 4 ((tkF s).l), box b3 [.int .i64 ((tkF s).pl), .int .i64 ((tkF s).pc)] 25, rowOf tkE ra3 rc3 36 4 ((tkF s).l)] w15 := S14.trans T7
    clear T7 S14
    refine J.head (.bool true) (congrArg Value.bool (sameT_refl _)) ?_
    refine J.run 3 K3_23 [(2, .bool true)] w15 (by kernel_rfl) ?_
    refine J.ret Tryd.f3 [.bool true] Tryd.func3 ⟨by kernel_rfl, trivial⟩ ?_
    refine hR _ _ ?_
    exact ⟨rfl, S15.nil⟩

theorem hb8 : HasBody Tryd.prog 8 := fun _ _ => by kernel_rfl
noncomputable def K8_0 : List Item := adv 7 [] (bodyOf Tryd.f8)
noncomputable def K8_1 : List Item := adv 11 [false] (popK K8_0)
noncomputable def K8_2 : List Item := adv 5 [true] K8_1
noncomputable def K8_3 : List Item := adv 5 [false] K8_1
noncomputable def K8_4 : List Item := adv 13 [] (popK K8_3)
noncomputable def K8_5 : List Item := adv 13 [] (popK K8_4)
noncomputable def K8_6 : List Item := adv 9 [] (popK K8_5)
noncomputable def K8_7 : List Item := adv 11 [] (popK K8_6)
noncomputable def K8_8 : List Item := adv 4 [] K8_7
noncomputable def K8_9 : List Item := adv 5 [] K8_8
noncomputable def K8_10 : List Item := adv 5 [] K8_9
noncomputable def K8_11 : List Item := adv 2 [] K8_10
noncomputable def K8_12 : List Item := adv 3 [] (popK (popK (popK K8_11)))
noncomputable def K8_13 : List Item := adv 1 [] (popK K8_12)
noncomputable def K8_14 : List Item := adv 1 [] (popK K8_13)
noncomputable def K8_15 : List Item := adv 3 [] K8_14
noncomputable def K8_16 : List Item := adv 1 [] (popK K8_15)
noncomputable def K8_17 : List Item := adv 1 [] (popK K8_16)
noncomputable def K8_18 : List Item := adv 5 [] K8_17
noncomputable def K8_19 : List Item := adv 5 [] K8_18
noncomputable def K8_20 : List Item := adv 3 [] K8_19
set_option maxRecDepth 20000 in
set_option maxHeartbeats 20000000 in
theorem lawwords_any (s : ByteArray) (w : World) (hW : TabW w) (hsb : s.size ≤ 9223372036854775807) : Ret Tryd.prog 8 #[.string s] w (fun v w' => v = .bool true ∧ Sep w [] w') := by
  have S0 := Sep.refl w
  refine Ret.named fun R hR => ?_
  refine Ret.of_J (N := 91) [(0, .string s)] Tryd.func8 rfl rfl (Nat.le_of_ble_eq_true (by kernel_rfl)) (by kernel_rfl) ?_
  have hk21 : kindsL.length = 21 := rfl
  refine J.run 7 K8_0 [(0, .string s)] w (by kernel_rfl) ?_
  refine J.callF 15 9 #[] hb9 (by kernel_rfl) (awake_any  _ (tabW_sep hW S0)) ?_
  rintro _ w1 ⟨rfl, T1⟩
  have S1 : Sep w [] w1 := S0.trans T1
  clear T1
  refine J.run 11 K8_1 [(19, .bool (decide ((s.size : Int) > 200))), (0, .string s)] w1 (by kernel_rfl) ?_
  by_cases fk1 : (s.size : Int) > 200
  · skip
    refine J.head (.bool true) (congrArg Value.bool (decide_eq_true fk1)) ?_
    refine J.run 5 K8_2 [(2, .bool true)] w1 (by kernel_rfl) ?_
    refine J.ret Tryd.f8 [.bool true] Tryd.func8 ⟨by kernel_rfl, trivial⟩ ?_
    refine hR _ _ ?_
    exact ⟨rfl, S1.nil⟩
  · skip
    refine J.head (.bool false) (congrArg Value.bool (decide_eq_false fk1)) ?_
    refine J.run 5 K8_3 [(21, .string s), (0, .string s)] w1 (by kernel_rfl) ?_
    refine J.callF 22 18 #[.string s] hb18 (by kernel_rfl) (kind_any s _) ?_
    rintro _ w2 ⟨rfl, T2⟩
    have S2 : Sep w [] w2 := S1.trans T2
    clear T2 S1
    refine J.run 13 K8_4 [(28, .string s), (6, .bool (kO s)), (5, .int .i64 (kT s)), (4, .int .i64 (kN s)), (3, .int .i64 (kA s)), (0, .string s)] w2 (by kernel_rfl) ?_
    refine J.callF 29 27 #[.string s] hb27 (by kernel_rfl) (rkind_any s _) ?_
    rintro _ w3 ⟨rfl, T3⟩
    have S3 : Sep w [] w3 := S2.trans T3
    clear T3 S2
    refine J.run 13 K8_5 [(35, .string s), (10, .bool (kO s)), (9, .int .i64 (kT s)), (8, .int .i64 (kN s)), (7, .int .i64 (kA s)), (6, .bool (kO s)), (5, .int .i64 (kT s)), (4, .int .i64 (kN s)), (3, .int .i64 (kA s)), (0, .string s)] w3 (by kernel_rfl) ?_
    refine J.callF 36 16 #[.string s] hb16 (by kernel_rfl) (number_any s _ (by omega) (tabW_sep hW S3)) ?_
    rintro _ w4 ⟨rfl, T4⟩
    have S4 : Sep w [] w4 := S3.trans T4
    clear T4 S3
    refine J.run 9 K8_6 [(40, .string s), (12, .int .i64 (numR s)), (11, .int .i64 (numX s)), (10, .bool (kO s)), (9, .int .i64 (kT s)), (8, .int .i64 (kN s)), (7, .int .i64 (kA s)), (6, .bool (kO s)), (5, .int .i64 (kT s)), (4, .int .i64 (kN s)), (3, .int .i64 (kA s)), (0, .string s)] w4 (by kernel_rfl) ?_
    refine J.callF 41 28 #[.string s] hb28 (by kernel_rfl) (rnumber2_any s _ (by omega)) ?_
    rintro _ w5 ⟨rfl, T5⟩
    have S5 : Sep w [] w5 := S4.trans T5
    clear T5 S4
    refine J.run 11 K8_7 [(46, .bool ((kA s) == (kA s))), (14, .int .i64 (numR s)), (13, .int .i64 (numX s)), (12, .int .i64 (numR s)), (11, .int .i64 (numX s)), (10, .bool (kO s)), (9, .int .i64 (kT s)), (8, .int .i64 (kN s)), (6, .bool (kO s)), (5, .int .i64 (kT s)), (4, .int .i64 (kN s)), (0, .string s)] w5 (by kernel_rfl) ?_
    refine J.head (.bool true) (congrArg Value.bool (by simp)) ?_
    refine J.run 4 K8_8 [(50, .bool ((kN s) == (kN s))), (47, .bool true), (14, .int .i64 (numR s)), (13, .int .i64 (numX s)), (12, .int .i64 (numR s)), (11, .int .i64 (numX s)), (10, .bool (kO s)), (9, .int .i64 (kT s)), (6, .bool (kO s)), (5, .int .i64 (kT s)), (0, .string s)] w5 (by kernel_rfl) ?_
    refine J.head (.bool true) (congrArg Value.bool (by simp)) ?_
    refine J.run 5 K8_9 [(55, .bool ((kT s) == (kT s))), (52, .bool true), (14, .int .i64 (numR s)), (13, .int .i64 (numX s)), (12, .int .i64 (numR s)), (11, .int .i64 (numX s)), (10, .bool (kO s)), (6, .bool (kO s)), (0, .string s)] w5 (by kernel_rfl) ?_
    refine J.head (.bool true) (congrArg Value.bool (by simp)) ?_
    refine J.run 5 K8_10 [(60, .bool ((kO s) == (kO s))), (57, .bool true), (14, .int .i64 (numR s)), (13, .int .i64 (numX s)), (12, .int .i64 (numR s)), (11, .int .i64 (numX s)), (0, .string s)] w5 (by kernel_rfl) ?_
    refine J.head (.bool true) (congrArg Value.bool (by simp)) ?_
    refine J.run 2 K8_11 [(62, .bool true), (14, .int .i64 (numR s)), (13, .int .i64 (numX s)), (12, .int .i64 (numR s)), (11, .int .i64 (numX s)), (0, .string s)] w5 (by kernel_rfl) ?_
    refine J.callF 63 17 #[] hb17 (by kernel_rfl) (kinds_any  _) ?_
    rintro _ w6 ⟨ra1, rc1, rfl, T6⟩
    have S6 : Sep w [rowOf (enc1 Value.string) ra1 rc1 9 1 kindsL] w6 := S5.trans T6
    clear T6 S5
    refine J.callF 64 30 #[] hb30 (by kernel_rfl) (rkinds_any  _) ?_
    rintro _ w7 ⟨ra2, rc2, rfl, T7⟩
    have S7 : Sep w [rowOf (enc1 Value.string) ra2 rc2 9 1 kindsL, rowOf (enc1 Value.string) ra1 rc1 9 1 kindsL] w7 := S6.trans T7
    clear T7 S6
    have := rowOf_len (S7.nth 1 rfl)
    have := rowOf_len (S7.nth 0 rfl)
    refine J.callF 65 29 #[.slice ra1 kindsL.length rc1, .slice ra2 kindsL.length rc2] hb29 (by kernel_rfl) (equalS ra1 kindsL.length rc1 kindsL ra2 kindsL.length rc2 kindsL _ ((row1_ones (S7.nth 1 rfl) kindsL.length (by first | rfl | omega | simp))) ((row1_ones (S7.nth 0 rfl) kindsL.length (by first | rfl | omega | simp))) (by first | omega | (simp; omega))) ?_
    rintro _ w8 ⟨rfl, T8⟩
    have S8 : Sep w [rowOf (enc1 Value.string) ra2 rc2 9 1 kindsL, rowOf (enc1 Value.string) ra1 rc1 9 1 kindsL] w8 := S7.trans T8
    clear T8 S7
    refine J.head (.bool true) (congrArg Value.bool (eqTs_refl _)) ?_
    refine J.run 3 K8_12 [(68, .string s), (67, .bool true), (14, .int .i64 (numR s)), (13, .int .i64 (numX s)), (12, .int .i64 (numR s)), (11, .int .i64 (numX s)), (0, .string s)] w8 (by kernel_rfl) ?_
    refine J.callF 69 19 #[.string s] hb19 (by kernel_rfl) (reserved_any s _) ?_
    rintro _ w9 ⟨rfl, T9⟩
    have S9 : Sep w [rowOf (enc1 Value.string) ra2 rc2 9 1 kindsL, rowOf (enc1 Value.string) ra1 rc1 9 1 kindsL] w9 := S8.trans T9
    clear T9 S8
    refine J.run 1 K8_13 [(70, .string s), (69, .bool (resB s)), (67, .bool true), (14, .int .i64 (numR s)), (13, .int .i64 (numX s)), (12, .int .i64 (numR s)), (11, .int .i64 (numX s)), (0, .string s)] w9 (by kernel_rfl) ?_
    refine J.callF 71 31 #[.string s] hb31 (by kernel_rfl) (rreserved_any s _) ?_
    rintro _ w10 ⟨rfl, T10⟩
    have S10 : Sep w [rowOf (enc1 Value.string) ra2 rc2 9 1 kindsL, rowOf (enc1 Value.string) ra1 rc1 9 1 kindsL] w10 := S9.trans T10
    clear T10 S9
    refine J.run 1 K8_14 [(72, .bool ((resB s) == (resB s))), (67, .bool true), (14, .int .i64 (numR s)), (13, .int .i64 (numX s)), (12, .int .i64 (numR s)), (11, .int .i64 (numX s)), (0, .string s)] w10 (by kernel_rfl) ?_
    refine J.head (.bool true) (congrArg Value.bool (by simp)) ?_
    refine J.run 3 K8_15 [(75, .string s), (74, .bool true), (14, .int .i64 (numR s)), (13, .int .i64 (numX s)), (12, .int .i64 (numR s)), (11, .int .i64 (numX s)), (0, .string s)] w10 (by kernel_rfl) ?_
    refine J.callF 76 20 #[.string s] hb20 (by kernel_rfl) (name_any s _ (by omega)) ?_
    rintro _ w11 ⟨rfl, T11⟩
    have S11 : Sep w [rowOf (enc1 Value.string) ra2 rc2 9 1 kindsL, rowOf (enc1 Value.string) ra1 rc1 9 1 kindsL] w11 := S10.trans T11
    clear T11 S10
    refine J.run 1 K8_16 [(77, .string s), (76, .bool (nameB s)), (74, .bool true), (14, .int .i64 (numR s)), (13, .int .i64 (numX s)), (12, .int .i64 (numR s)), (11, .int .i64 (numX s))] w11 (by kernel_rfl) ?_
    refine J.callF 78 32 #[.string s] hb32 (by kernel_rfl) (rname_any s _ (by omega)) ?_
    rintro _ w12 ⟨rfl, T12⟩
    have S12 : Sep w [rowOf (enc1 Value.string) ra2 rc2 9 1 kindsL, rowOf (enc1 Value.string) ra1 rc1 9 1 kindsL] w12 := S11.trans T12
    clear T12 S11
    refine J.run 1 K8_17 [(79, .bool ((nameB s) == (nameB s))), (74, .bool true), (14, .int .i64 (numR s)), (13, .int .i64 (numX s)), (12, .int .i64 (numR s)), (11, .int .i64 (numX s))] w12 (by kernel_rfl) ?_
    refine J.head (.bool true) (congrArg Value.bool (by simp)) ?_
    refine J.run 5 K8_18 [(84, .bool ((numX s) == (numX s))), (81, .bool true), (14, .int .i64 (numR s)), (12, .int .i64 (numR s))] w12 (by kernel_rfl) ?_
    refine J.head (.bool true) (congrArg Value.bool (by simp)) ?_
    refine J.run 5 K8_19 [(89, .bool ((numR s) == (numR s))), (86, .bool true)] w12 (by kernel_rfl) ?_
    refine J.head (.bool true) (congrArg Value.bool (by simp)) ?_
    refine J.run 3 K8_20 [(2, .bool true)] w12 (by kernel_rfl) ?_
    refine J.ret Tryd.f8 [.bool true] Tryd.func8 ⟨by kernel_rfl, trivial⟩ ?_
    refine hR _ _ ?_
    exact ⟨rfl, S12.nil⟩

end Go.Proofs.YtlklealllohmgaaDoor
