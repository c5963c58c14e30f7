/- Walks of functions of this seat, printed by a program over the engine. Conditions: as each theorem says. -/
import Derived.Test.YtlklealllohmgaaDoorX11
namespace Go.Proofs.YtlklealllohmgaaDoor
open Go.Eng Go.RowKit
set_option linter.unusedSimpArgs false
set_option linter.unusedVariables false
/-! places: an invariant of the scan against the text's lines -/
def tk0 : Tk := ⟨0, ByteArray.empty, 0, 0⟩
theorem split_adv : ∀ (n : Nat) {r h : List UInt8} {t : List (List UInt8)}, splitOn 10 r = h :: t → n ≤ r.length → (∀ x ∈ r.take n, x ≠ 10) → splitOn 10 (r.drop n) = h.drop n :: t ∧ h.take n = r.take n ∧ n ≤ h.length
  | 0, r, h, t, hs, _, _ => ⟨hs, by rw [List.take_zero, List.take_zero], Nat.zero_le _⟩
  | n + 1, [], h, t, hs, hn, _ => by simp at hn
  | n + 1, c :: r, h, t, hs, hn, h10 => by
    have hc : c ≠ 10 := h10 c (by simp)
    rw [splitOn, if_neg hc] at hs
    cases he : splitOn 10 r with
    | nil => exact absurd he (splitOn_ne 10 r)
    | cons h' t' =>
      rw [he] at hs
      simp only [List.cons.injEq] at hs
      obtain ⟨rfl, rfl⟩ := hs
      obtain ⟨a, b, d⟩ := split_adv n he (by simpa using hn) (fun x hx => h10 x (by simp [hx]))
      exact ⟨by simpa using a, by simp [b], by simpa using d⟩
theorem run_no10 {p : Int → Bool} (hp : p 10 = false) : ∀ (r : List UInt8) (x : UInt8), x ∈ r.take (runL p r) → x ≠ 10
  | [], x, h => by simp at h
  | c :: r, x, h => by
    unfold runL at h
    split at h
    · rename_i hc
      rw [List.take_succ_cons, List.mem_cons] at h
      rcases h with rfl | h
      · intro e; subst e; rw [show b2 (10 : UInt8) = 10 from rfl, hp] at hc; cases hc
      · exact run_no10 hp r x h
    · simp at h
theorem tok_no10 {c : UInt8} {t : List UInt8} (hc : c ≠ 10) (he : (tokAt (c :: t)).2.2 = 0) : (∀ x ∈ (c :: t).take (tokAt (c :: t)).2.1, x ≠ 10) ∧ (tokAt (c :: t)).1 ≤ 3 := by
  have h1 : ∀ x ∈ (c :: t).take 1, x ≠ 10 := by intro x hx; simp at hx; rw [hx]; exact hc
  unfold tokAt at he ⊢
  simp only at he ⊢
  split
  · exact ⟨h1, by simp⟩
  · rename_i hb; rw [if_neg hb] at he
    split
    · rename_i hl; rw [if_pos hl] at he
      split
      · rename_i h24; rw [if_pos h24] at he; simp at he
      · exact ⟨fun x hx => run_no10 innB_ten (c :: t) x hx, by simp⟩
    · rename_i hl; rw [if_neg hl] at he
      split
      · rename_i hn; rw [if_pos hn] at he
        split
        · rename_i h3; rw [if_pos h3] at he; simp at he
        · rename_i h3; rw [if_neg h3] at he
          split
          · rename_i h4; rw [if_pos h4] at he; simp at he
          · refine ⟨fun x hx => ?_, by simp⟩
            have hx' : x ∈ c :: t.take (runL digB t) := by
              have : (c :: t).take (1 + runL digB t) = c :: t.take (runL digB t) := by rw [Nat.add_comm, List.take_succ_cons]
              rw [← this]; exact hx
            rcases List.mem_cons.1 hx' with rfl | hx'
            · exact hc
            · exact run_no10 digB_ten t x hx'
      · rename_i hn; rw [if_neg hn] at he
        split
        · exact ⟨h1, by simp⟩
        · rename_i h5; rw [if_neg h5] at he; simp at he
section
variable (L : List (List UInt8))
def lineAt (ln : Int) : List UInt8 := L.getD (ln - 1).toNat []
def PT (x : Tk) : Prop := (1 ≤ x.gPlace_Line ∧ x.gPlace_Line ≤ (L.length : Int)) ∧ (1 ≤ x.gPlace_Column ∧ x.gPlace_Column ≤ ((lineAt L x.gPlace_Line).length : Int) + 1) ∧
  (ls x.gText) <+: ((lineAt L x.gPlace_Line).drop (x.gPlace_Column - 1).toNat) ∧ (x.gKind = 4 ↔ x.gText.size = 0)
def RT (y x : Tk) : Prop := y.gPlace_Line ≤ x.gPlace_Line ∧ (y.gPlace_Line = x.gPlace_Line → y.gPlace_Column < x.gPlace_Column) ∧ (y.gKind = 4 ↔ y.gPlace_Line < x.gPlace_Line)
def OKL (l : List Tk) : Prop := (∀ j, j < l.length → PT L (l.getD j tk0)) ∧ (∀ j, j + 1 < l.length → RT (l.getD j tk0) (l.getD (j + 1) tk0))
def lastT (l : List Tk) : Tk := l.getD (l.length - 1) tk0
def SM (sm : Bool) (ln col : Int) (out : List Tk) : Prop := (sm = true → out ≠ [] ∧ (lastT out).gKind ≠ 4 ∧ (lastT out).gPlace_Line = ln ∧ (lastT out).gPlace_Column < col) ∧ (sm = false → out ≠ [] → (lastT out).gKind = 4 ∧ (lastT out).gPlace_Line < ln)
def AtL (r : List UInt8) (ln col : Int) : Prop := splitOn 10 r = (lineAt L ln).drop (col - 1).toNat :: L.drop ln.toNat ∧ (1 ≤ ln ∧ ln ≤ (L.length : Int)) ∧ (1 ≤ col ∧ col ≤ ((lineAt L ln).length : Int) + 1)
def GT (t : TR) : Prop := (t.e ≠ 0 → t.l = [] ∧ (1 ≤ t.pl ∧ t.pl ≤ (L.length : Int)) ∧ (1 ≤ t.pc ∧ t.pc ≤ ((lineAt L t.pl).length : Int))) ∧ (t.e = 0 → OKL L t.l ∧ (t.l ≠ [] → (lastT t.l).gKind = 4))
end
theorem getD_left {l : List Tk} {x : Tk} {j : Nat} (h : j < l.length) : (l ++ [x]).getD j tk0 = l.getD j tk0 := by rw [List.getD_eq_getElem?_getD, List.getD_eq_getElem?_getD, List.getElem?_append_left h]
theorem getD_last (l : List Tk) (x : Tk) : (l ++ [x]).getD l.length tk0 = x := by rw [List.getD_eq_getElem?_getD, List.getElem?_append_right (Nat.le_refl _), Nat.sub_self]; rfl
theorem lastT_snoc (l : List Tk) (x : Tk) : lastT (l ++ [x]) = x := by
  unfold lastT; rw [List.length_append]; exact getD_last l x
theorem okl_snoc {L : List (List UInt8)} {l : List Tk} {x : Tk} (h : OKL L l) (hx : PT L x) (hr : l ≠ [] → RT (lastT l) x) : OKL L (l ++ [x]) := by
  refine ⟨fun j hj => ?_, fun j hj => ?_⟩
  · rw [List.length_append, List.length_singleton] at hj
    by_cases h1 : j < l.length
    · rw [getD_left h1]; exact h.1 j h1
    · rw [show j = l.length by omega, getD_last]; exact hx
  · rw [List.length_append, List.length_singleton] at hj
    by_cases h1 : j + 1 < l.length
    · rw [getD_left h1, getD_left (by omega)]; exact h.2 j h1
    · rw [getD_left (show j < l.length by omega), show j + 1 = l.length by omega, getD_last]
      have hl := hr (by intro e; rw [e] at hj; simp at hj)
      unfold lastT at hl; rw [show l.length - 1 = j by omega] at hl; exact hl
theorem end_ok {L : List (List UInt8)} {r : List UInt8} {sm : Bool} {ln col : Int} {out : List Tk} (ha : AtL L r ln col) (ho : OKL L out) (hs : SM sm ln col out) :
    OKL L (endT sm ln col out) ∧ (endT sm ln col out ≠ [] → (lastT (endT sm ln col out)).gKind = 4 ∧ (lastT (endT sm ln col out)).gPlace_Line < ln + 1) := by
  unfold endT
  cases sm with
  | false =>
    rw [if_neg (by decide)]
    exact ⟨ho, fun h => by obtain ⟨a, b⟩ := hs.2 rfl h; exact ⟨a, by omega⟩⟩
  | true =>
    rw [if_pos rfl]
    obtain ⟨h1, h2, h3, h4⟩ := hs.1 rfl
    refine ⟨okl_snoc ho ⟨ha.2.1, ha.2.2, ?_, ?_⟩ (fun _ => ⟨?_, fun _ => h4, ?_⟩), fun _ => ?_⟩
    · rw [empty_ls]; exact List.nil_prefix
    · exact ⟨fun _ => rfl, fun _ => rfl⟩
    · show (lastT out).gPlace_Line ≤ ln; omega
    · exact ⟨fun h => absurd h h2, fun h => by rw [h3] at h; exact absurd h (Int.lt_irrefl ln)⟩
    · rw [lastT_snoc]; exact ⟨rfl, by show ln < ln + 1; omega⟩
theorem at_adv {L : List (List UInt8)} {r : List UInt8} {ln col : Int} {n : Nat} (ha : AtL L r ln col) (hn : n ≤ r.length) (h10 : ∀ x ∈ r.take n, x ≠ 10) :
    AtL L (r.drop n) ln (col + n) ∧ ((lineAt L ln).drop (col - 1).toNat).take n = r.take n ∧ col + n ≤ ((lineAt L ln).length : Int) + 1 := by
  obtain ⟨h1, h2, h3⟩ := ha
  obtain ⟨a, b, d⟩ := split_adv n h1 hn h10
  rw [List.length_drop] at d
  refine ⟨⟨?_, h2, by omega, by omega⟩, b, by omega⟩
  rw [a, List.drop_drop, show (col + (n : Int) - 1).toNat = (col - 1).toNat + n by omega]
theorem gS_inv {L : List (List UInt8)} : ∀ (f : Nat) (r : List UInt8) (ln col : Int) (sm cm : Bool) (out : List Tk), r.length < f → AtL L r ln col → OKL L out → SM sm ln col out → GT L (gS f r ln col sm cm out) := by
  intro f
  induction f with
  | zero => intro r _ _ _ _ _ h; omega
  | succ f ih =>
    intro r ln col sm cm out hf ha ho hs
    cases r with
    | nil =>
      obtain ⟨e1, e2⟩ := end_ok ha ho hs
      exact ⟨fun h => absurd rfl h, fun _ => ⟨e1, fun h => (e2 h).1⟩⟩
    | cons c r =>
      simp only [List.length_cons] at hf
      unfold gS
      by_cases hc : b2 c = 10
      · rw [if_pos hc]
        have hc' : c = 10 := UInt8.toNat_inj.1 (by have h10 : (10 : UInt8).toNat = 10 := rfl; have e2 : (c.toNat : Int) = 10 := hc; omega)
        obtain ⟨e1, e2⟩ := end_ok ha ho hs
        obtain ⟨h1, h2, h3⟩ := ha
        rw [splitOn, if_pos hc'] at h1
        simp only [List.cons.injEq] at h1
        have hne := splitOn_ne 10 r
        rw [h1.2] at hne
        have hlt : ln.toNat < L.length := by
          by_cases hh : ln.toNat < L.length
          · exact hh
          · exact absurd (List.drop_eq_nil_of_le (by omega)) hne
        refine ih r (ln + 1) 1 false false _ (by omega) ⟨?_, ⟨by omega, by omega⟩, ⟨by omega, by omega⟩⟩ e1 ⟨fun h => (by cases h), fun _ h => e2 h⟩
        rw [h1.2, List.drop_eq_getElem_cons hlt]
        unfold lineAt
        rw [show (ln + 1 - 1).toNat = ln.toNat by omega, show (ln + 1).toNat = ln.toNat + 1 by omega, show ((1 : Int) - 1).toNat = 0 from rfl, List.drop_zero, List.getD_eq_getElem?_getD, List.getElem?_eq_getElem hlt]
        rfl
      · rw [if_neg hc]
        have hc' : c ≠ 10 := fun e => hc (by rw [e]; rfl)
        have ha1 := at_adv (n := 1) ha (by simp) (by intro x hx; simp at hx; rw [hx]; exact hc')
        have hbad : ∀ e : Int, e ≠ 0 → GT L ⟨[], ln, col, e⟩ := fun e he => ⟨fun _ => ⟨rfl, ha.2.1, ha.2.2.1, by show col ≤ ((lineAt L ln).length : Int); have := ha1.2.2; omega⟩, fun h => absurd h he⟩
        have hs1 : SM sm ln (col + 1) out := ⟨fun h => by obtain ⟨a, b, d, e⟩ := hs.1 h; exact ⟨a, b, d, by omega⟩, hs.2⟩
        split
        · split
          · exact hbad 3 (by decide)
          · exact ih r ln (col + 1) sm true out (by omega) ha1.1 ho hs1
        · split
          · exact ih r ln (col + 1) sm true out (by omega) ha1.1 ho hs1
          · split
            · rename_i he; exact hbad _ he
            · rename_i he
              have he : (tokAt (c :: r)).2.2 = 0 := by simpa using he
              have hl := tok_len he
              obtain ⟨hn10, hk3⟩ := tok_no10 hc' he
              have haN := at_adv ha hl.2.1 hn10
              refine ih _ ln _ _ false _ (by rw [List.length_drop]; simp only [List.length_cons]; omega) haN.1 ?_ ?_
              · unfold addT
                split
                · rename_i hk
                  refine okl_snoc ho ⟨ha.2.1, ha.2.2, ?_, ?_⟩ (fun hne => ?_)
                  · show ls (⟨((c :: r).take (tokAt (c :: r)).2.1).toArray⟩ : ByteArray) <+: (lineAt L ln).drop (col - 1).toNat
                    rw [ls_mk, ← haN.2.1]; exact List.take_prefix _ _
                  · have hz : (⟨((c :: r).take (tokAt (c :: r)).2.1).toArray⟩ : ByteArray).size = (tokAt (c :: r)).2.1 := by
                      rw [← ls_length, ls_mk, List.length_take]; omega
                    show (tokAt (c :: r)).1 = 4 ↔ _
                    rw [hz]; constructor <;> intro h <;> omega
                  · cases sm with
                    | false =>
                      obtain ⟨a, b⟩ := hs.2 rfl hne
                      exact ⟨by show (lastT out).gPlace_Line ≤ ln; omega, fun h => by (have h' : (lastT out).gPlace_Line = ln := h); omega, fun _ => b, fun _ => a⟩
                    | true =>
                      obtain ⟨_, a, b, d⟩ := hs.1 rfl
                      exact ⟨by show (lastT out).gPlace_Line ≤ ln; omega, fun _ => d, fun h => absurd h a, fun h => by (have h' : (lastT out).gPlace_Line < ln := h); omega⟩
                · exact ho
              · by_cases hk : 0 < (tokAt (c :: r)).1
                · unfold addT
                  rw [if_pos hk, decide_eq_true hk, Bool.or_true]
                  refine ⟨fun _ => ?_, fun h => by cases h⟩
                  rw [lastT_snoc]
                  exact ⟨by simp, by show (tokAt (c :: r)).1 ≠ 4; omega, rfl, by show col < col + _; omega⟩
                · unfold addT
                  rw [if_neg hk, decide_eq_false hk, Bool.or_false]
                  exact ⟨fun h => by obtain ⟨a, b, d, e⟩ := hs.1 h; exact ⟨a, b, d, by omega⟩, hs.2⟩
theorem tk_places {s : ByteArray} (h : s.size ≤ 16384) : GT (splitOn 10 (ls s)) (tkF s) := by
  unfold tkF
  rw [if_neg (by omega)]
  have h0 : 0 < (splitOn 10 (ls s)).length := by
    cases hh : splitOn 10 (ls s) with
    | nil => exact absurd hh (splitOn_ne 10 _)
    | cons a b => simp
  refine gS_inv _ (ls s) 1 1 false false [] (by omega) ⟨?_, ⟨by omega, by omega⟩, ⟨by omega, by omega⟩⟩ ⟨fun j hj => by simp at hj, fun j hj => by simp at hj⟩ ⟨fun h => (by cases h), fun _ h => absurd rfl h⟩
  cases hh : splitOn 10 (ls s) with
  | nil => exact absurd hh (splitOn_ne 10 _)
  | cons a b => rfl

theorem hb14 : HasBody Tryd.prog 14 := fun _ _ => by kernel_rfl
def preB (s p : ByteArray) : Bool := (ls p).isPrefixOf (ls s)
theorem hasprefix_any (s p : ByteArray) (w : World) : Ret Tryd.prog 14 #[.string s, .string p] w (fun v w' => v = .bool (preB s p) ∧ Sep w [] w') :=
  Ret.of_calls (Tryd.strings_HasPrefix s p w) fun w' hw => ⟨rfl, by subst hw; exact .refl _⟩
theorem piece_line (s : ByteArray) {ln : Int} (h : 1 ≤ ln ∧ ln ≤ ((splitOn 10 (ls s)).length : Int)) : ls ((piecesB 10 s).getD (ln - 1).toNat ByteArray.empty) = lineAt (splitOn 10 (ls s)) ln := piecesB_getD 10 s (ln - 1).toNat (by omega)
theorem piece_size2 (s : ByteArray) {ln : Int} (h : 1 ≤ ln ∧ ln ≤ ((splitOn 10 (ls s)).length : Int)) : ((piecesB 10 s).getD (ln - 1).toNat ByteArray.empty).size = (lineAt (splitOn 10 (ls s)) ln).length := by rw [← ls_length, piece_line s h]
theorem last_at {t : TR} (h : t.l ≠ [] → (lastT t.l).gKind = 4) (hl : ¬ ((t.l.length : Int) = 0)) : (t.l.getD ((t.l.length : Int) - 1).toNat (⟨0, ByteArray.empty, 0, 0⟩ : Tk)).gKind = 4 := by
  have h1 := h (fun e => hl (by rw [e]; rfl))
  unfold lastT at h1
  rw [show ((t.l.length : Int) - 1).toNat = t.l.length - 1 by omega]; exact h1
theorem bool_iff {k : Int} {n : Nat} (h : k = 4 ↔ n = 0) : (!((k == 4) == ((n : Int) == 0))) = false := by
  by_cases h4 : k = 4
  · rw [beq_iff_eq.2 h4, beq_iff_eq.2 (show (n : Int) = 0 by have := h.1 h4; omega)]; rfl
  · rw [beq_eq_false_iff_ne.2 h4, beq_eq_false_iff_ne.2 (show (n : Int) ≠ 0 from fun e => h4 (h.2 (by omega)))]; rfl
theorem bool_lt {k a b : Int} (h : k = 4 ↔ a < b) : (!((k == 4) == decide (a < b))) = false := by
  by_cases h4 : k = 4
  · rw [beq_iff_eq.2 h4, decide_eq_true (h.1 h4)]; rfl
  · rw [beq_eq_false_iff_ne.2 h4, decide_eq_false (fun e => h4 (h.2 e))]; rfl
theorem pre_line (s : ByteArray) {ln col : Int} {x : ByteArray} (h : 1 ≤ ln ∧ ln ≤ ((splitOn 10 (ls s)).length : Int)) (hx : (ls x) <+: (lineAt (splitOn 10 (ls s)) ln).drop (col - 1).toNat) :
    preB (((piecesB 10 s).getD (ln - 1).toNat ByteArray.empty).extract (col - 1).toNat ((piecesB 10 s).getD (ln - 1).toNat ByteArray.empty).size) x = true := by
  unfold preB
  rw [ls_tail, piece_line s h, List.isPrefixOf_iff_prefix]; exact hx
theorem hb4 : HasBody Tryd.prog 4 := fun _ _ => by kernel_rfl
noncomputable def K4_0 : List Item := adv 7 [] (bodyOf Tryd.f4)
noncomputable def K4_1 : List Item := adv 11 [false] (popK K4_0)
noncomputable def K4_2 : List Item := adv 5 [true] K4_1
noncomputable def K4_3 : List Item := adv 5 [false] K4_1
noncomputable def K4_4 : List Item := adv 4 [] (popK K4_3)
noncomputable def K4_5 : List Item := adv 1 [] (popK K4_4)
noncomputable def K4_6 : List Item := adv 5 [] (popK K4_5)
noncomputable def K4_7 : List Item := adv 8 [] (popK K4_6)
noncomputable def K4_8 : List Item := adv 11 [false] K4_7
noncomputable def K4_9 : List Item := adv 5 [] K4_8
noncomputable def K4_10 : List Item := adv 7 [true] K4_9
noncomputable def K4_11 : List Item := adv 1 [] (popK (popK (popK K4_10)))
noncomputable def K4_12 : List Item := adv 3 [] (popK K4_11)
noncomputable def K4_13 : List Item := adv 5 [true] (rRest K4_12)
noncomputable def K4_14 : List Item := adv 5 [true] (rRest K4_12)
noncomputable def K4_15 : List Item := adv 5 [true] (rRest K4_12)
noncomputable def K4_16 : List Item := adv 5 [true] (rRest K4_12)
noncomputable def K4_17 : List Item := adv 4 [false] (rRest K4_12)
noncomputable def K4_18 : List Item := adv 8 [false] (rRest K4_17)
noncomputable def K4_19 : List Item := adv 4 [true] K4_18
noncomputable def K4_20 : List Item := adv 7 [false] K4_18
noncomputable def K4_21 : List Item := adv 5 [] (popK (popK (popK (popK K4_20))))
noncomputable def K4_22 : List Item := adv 2 [] (popK K4_21)
noncomputable def K4_23 : List Item := adv 2 [] (popK K4_22)
noncomputable def K4_24 : List Item := adv 36 [true] K4_23
noncomputable def K4_25 : List Item := adv 2 [] K4_23
noncomputable def K4_26 : List Item := adv 2 [] (popK K4_25)
noncomputable def K4_27 : List Item := adv 2 [] (popK K4_26)
noncomputable def K4_28 : List Item := adv 2 [] K4_27
noncomputable def K4_29 : List Item := adv 2 [] (popK K4_28)
noncomputable def K4_30 : List Item := adv 4 [] (popK K4_29)
noncomputable def K4_31 : List Item := adv 18 [true] K4_30
noncomputable def K4_32 : List Item := adv 1 [] K4_30
noncomputable def K4_33 : List Item := adv 3 [] (popK K4_32)
noncomputable def K4_34 : List Item := adv 2 [] (popK K4_33)
noncomputable def K4_35 : List Item := adv 4 [] (popK K4_34)
noncomputable def K4_36 : List Item := adv 5 [false] K4_35
noncomputable def K4_37 : List Item := adv 11 [] K4_27
noncomputable def K4_38 : List Item := adv 3 [] (popK K4_37)
noncomputable def K4_39 : List Item := adv 2 [] (popK K4_38)
noncomputable def K4_40 : List Item := adv 4 [] (popK K4_39)
noncomputable def K4_41 : List Item := adv 5 [false] K4_40
noncomputable def K4_42 : List Item := adv 8 [false] K4_9
noncomputable def K4_43 : List Item := adv 11 [] K4_42
noncomputable def K4_44 : List Item := adv 4 [] K4_42
noncomputable def K4_45 : List Item := adv 1 [] (popK K4_44)
noncomputable def K4_46 : List Item := adv 4 [] (popK K4_45)
noncomputable def K4_47 : List Item := adv 2 [true] K4_7
set_option maxRecDepth 20000 in
set_option maxHeartbeats 20000000 in
theorem lawplaces_any (s : ByteArray) (w : World) (hW : TabW w) (hsb : s.size ≤ 9223372036854775807) : Ret Tryd.prog 4 #[.string s] w (fun v w' => v = .bool true ∧ Sep w [] w') := by
  have S0 := Sep.refl w
  refine Ret.named fun R hR => ?_
  refine Ret.of_J (N := 181) [(0, .string s)] Tryd.func4 rfl rfl (Nat.le_of_ble_eq_true (by kernel_rfl)) (by kernel_rfl) ?_
  refine J.run 7 K4_0 [(0, .string s)] w (by kernel_rfl) ?_
  refine J.callF 10 9 #[] hb9 (by kernel_rfl) (awake_any  _ (tabW_sep hW S0)) ?_
  rintro _ w1 ⟨rfl, T1⟩
  have S1 : Sep w [] w1 := S0.trans T1
  clear T1
  refine J.run 11 K4_1 [(14, .bool (decide ((s.size : Int) > 2000))), (0, .string s)] w1 (by kernel_rfl) ?_
  by_cases fk1 : (s.size : Int) > 2000
  · skip
    refine J.head (.bool true) (congrArg Value.bool (decide_eq_true fk1)) ?_
    refine J.run 5 K4_2 [(2, .bool true)] w1 (by kernel_rfl) ?_
    refine J.ret Tryd.f4 [.bool true] Tryd.func4 ⟨by kernel_rfl, trivial⟩ ?_
    refine hR _ _ ?_
    exact ⟨rfl, S1.nil⟩
  · skip
    refine J.head (.bool false) (congrArg Value.bool (decide_eq_false fk1)) ?_
    have hG := tk_places (s := s) (by omega)
    have hgl := tkF_len s
    refine J.run 5 K4_3 [(16, .string s), (0, .string s)] w1 (by kernel_rfl) ?_
    refine J.callF 17 10 #[.string s] hb10 (by kernel_rfl) (tokens_any s _ (by omega) (tabW_sep hW S1)) ?_
    rintro _ w2 ⟨ra1, rc1, rfl, T2⟩
    have S2 : Sep w [rowOf tkE ra1 rc1 36 4 ((tkF s).l)] w2 := S1.trans T2
    clear T2 S1
    refine J.run 4 K4_4 [(20, .int .i64 ((tkF s).e)), (19, .agg #[.int .i64 ((tkF s).pl), .int .i64 ((tkF s).pc)]), (18, .slice ra1 (((tkF s).l).length) rc1), (0, .string s)] w2 (by kernel_rfl) ?_
    refine J.new S2 4 [.int .i64 0, .int .i64 0] 25 (by kernel_rfl) ?_
    intro b1 w3 S3
    refine J.run 1 K4_5 [(3, .slice ra1 (((tkF s).l).length) rc1), (4, .pointer (some ⟨b1, 0, none⟩)), (20, .int .i64 ((tkF s).e)), (19, .agg #[.int .i64 ((tkF s).pl), .int .i64 ((tkF s).pc)]), (0, .string s)] w3 (by kernel_rfl) ?_
    refine J.stBox S3 0 25 0 (.agg #[.int .i64 ((tkF s).pl), .int .i64 ((tkF s).pc)]) [.int .i64 ((tkF s).pl), .int .i64 ((tkF s).pc)] [box b1 [.int .i64 ((tkF s).pl), .int .i64 ((tkF s).pc)] 25, rowOf tkE ra1 rc1 36 4 ((tkF s).l)] (by kernel_rfl) rfl (by kernel_rfl) (by kernel_rfl) rfl ?_
    intro w4 S4
    refine J.run 5 K4_6 [(21, .string s), (5, .int .i64 ((tkF s).e)), (3, .slice ra1 (((tkF s).l).length) rc1), (4, .pointer (some ⟨b1, 0, none⟩))] w4 (by kernel_rfl) ?_
    refine J.callF 22 13 #[.string s, .string ⟨#[10]⟩] hb13 (by kernel_rfl) (split10_any s _ (by omega) (tabW_sep hW S4)) ?_
    rintro _ w5 ⟨b2, rfl, T3⟩
    have S5 : Sep w [box b2 ((piecesB 10 s).map Value.string) 9, box b1 [.int .i64 ((tkF s).pl), .int .i64 ((tkF s).pc)] 25, rowOf tkE ra1 rc1 36 4 ((tkF s).l)] w5 := S4.trans T3
    clear T3
    have := splitOn_bound 10 (ls s); have := pieces_len 10 s; have := ls_length s
    refine J.run 8 K4_7 [(24, .bool (((tkF s).e) != 0)), (6, .slice (some ⟨b2, 0, none⟩) ((piecesB 10 s).length) ((piecesB 10 s).length)), (3, .slice ra1 (((tkF s).l).length) rc1), (4, .pointer (some ⟨b1, 0, none⟩))] w5 (by kernel_rfl) ?_
    by_cases fk2 : ((tkF s).e) = 0
    · skip
      refine J.head (.bool false) (congrArg Value.bool (bne_eq_false_iff_eq.2 fk2)) ?_
      obtain ⟨⟨o1, o2⟩, o3⟩ := hG.2 fk2
      refine J.run 11 K4_8 [(59, .int .i64 0), (58, .int .i64 (((tkF s).l).length : Int)), (57, .slice ra1 (((tkF s).l).length) rc1), (6, .slice (some ⟨b2, 0, none⟩) ((piecesB 10 s).length) ((piecesB 10 s).length)), (3, .slice ra1 (((tkF s).l).length) rc1)] w5 (by kernel_rfl) ?_
      have L4_1 : ∀ (mm_ : Nat) (i : Int) (w6 : World), (0 ≤ i) → (i ≤ ((tkF s).l.length : Int)) → Sep w [box b2 ((piecesB 10 s).map Value.string) 9, box b1 [.int .i64 ((tkF s).pl), .int .i64 ((tkF s).pc)] 25, rowOf tkE ra1 rc1 36 4 ((tkF s).l)] w6 → (((tkF s).l.length : Int) - i).toNat = mm_ → J Tryd.prog 4 181 R K4_8 [(59, .int .i64 i), (58, .int .i64 (((tkF s).l).length : Int)), (57, .slice ra1 (((tkF s).l).length) rc1), (6, .slice (some ⟨b2, 0, none⟩) ((piecesB 10 s).length) ((piecesB 10 s).length)), (3, .slice ra1 (((tkF s).l).length) rc1)] w6 := by
        intro mm1
        induction mm1 using Nat.strongRecOn with
        | _ mm1 ih1 =>
        intro i w6 h0 h1 S6 hm1
        refine J.run 5 K4_9 [(60, .bool (decide (i < (((tkF s).l).length : Int)))), (59, .int .i64 i), (58, .int .i64 (((tkF s).l).length : Int)), (57, .slice ra1 (((tkF s).l).length) rc1), (6, .slice (some ⟨b2, 0, none⟩) ((piecesB 10 s).length) ((piecesB 10 s).length)), (3, .slice ra1 (((tkF s).l).length) rc1)] w6 (by kernel_rfl) ?_
        by_cases fk3 : i < (((tkF s).l).length : Int)
        · skip
          refine J.head (.bool true) (congrArg Value.bool (decide_eq_true fk3)) ?_
          have hX : PT (splitOn 10 (ls s)) ((tkF s).l.getD (i).toNat (⟨0, ByteArray.empty, 0, 0⟩ : Tk)) := o1 i.toNat (by omega)
          obtain ⟨px1, px2, px3, px4⟩ := hX
          have hls := piece_size2 s px1
          have hlz := piece_size 10 s (((tkF s).l.getD (i).toNat (⟨0, ByteArray.empty, 0, 0⟩ : Tk)).gPlace_Line - 1).toNat
          refine J.run 7 K4_10 [(61, .int .i64 i), (59, .int .i64 i), (58, .int .i64 (((tkF s).l).length : Int)), (57, .slice ra1 (((tkF s).l).length) rc1), (6, .slice (some ⟨b2, 0, none⟩) ((piecesB 10 s).length) ((piecesB 10 s).length)), (3, .slice ra1 (((tkF s).l).length) rc1)] w6 (by kernel_rfl) ?_
          obtain ⟨p1, hp1, hc1⟩ := (rowOf_recs (S6.nth 2 rfl) _ rfl (fun _ => rfl) (by decide)).at (⟨0, ByteArray.empty, 0, 0⟩ : Tk) (i).toNat (by omega)
          refine J.ok (OK.index 62 23 4 ra1 p1 (((tkF s).l).length) (i).toNat i (p1.add ((i).toNat * 4)) (by kernel_rfl) (by kernel_rfl) hp1 (by omega) (by omega) rfl) ?_
          refine J.ok (OK.ldCells 63 36 (p1.add ((i).toNat * 4)) [.int .i64 ((((tkF s).l).getD (i).toNat (⟨0, ByteArray.empty, 0, 0⟩ : Tk)).gKind), .string ((((tkF s).l).getD (i).toNat (⟨0, ByteArray.empty, 0, 0⟩ : Tk)).gText), .int .i64 ((((tkF s).l).getD (i).toNat (⟨0, ByteArray.empty, 0, 0⟩ : Tk)).gPlace_Line), .int .i64 ((((tkF s).l).getD (i).toNat (⟨0, ByteArray.empty, 0, 0⟩ : Tk)).gPlace_Column)] (by kernel_rfl) (by kernel_rfl) (by kernel_rfl) hc1) ?_
          refine J.new S6 8 [.int .i64 0, .string ByteArray.empty, .int .i64 0, .int .i64 0] 36 (by kernel_rfl) ?_
          intro b3 w7 S7
          refine J.run 1 K4_11 [(7, .int .i64 i), (8, .pointer (some ⟨b3, 0, none⟩)), (63, .agg #[.int .i64 ((((tkF s).l).getD (i).toNat (⟨0, ByteArray.empty, 0, 0⟩ : Tk)).gKind), .string ((((tkF s).l).getD (i).toNat (⟨0, ByteArray.empty, 0, 0⟩ : Tk)).gText), .int .i64 ((((tkF s).l).getD (i).toNat (⟨0, ByteArray.empty, 0, 0⟩ : Tk)).gPlace_Line), .int .i64 ((((tkF s).l).getD (i).toNat (⟨0, ByteArray.empty, 0, 0⟩ : Tk)).gPlace_Column)]), (59, .int .i64 i), (58, .int .i64 (((tkF s).l).length : Int)), (57, .slice ra1 (((tkF s).l).length) rc1), (6, .slice (some ⟨b2, 0, none⟩) ((piecesB 10 s).length) ((piecesB 10 s).length)), (3, .slice ra1 (((tkF s).l).length) rc1)] w7 (by kernel_rfl) ?_
          refine J.stBox S7 0 36 0 (.agg #[.int .i64 ((((tkF s).l).getD (i).toNat (⟨0, ByteArray.empty, 0, 0⟩ : Tk)).gKind), .string ((((tkF s).l).getD (i).toNat (⟨0, ByteArray.empty, 0, 0⟩ : Tk)).gText), .int .i64 ((((tkF s).l).getD (i).toNat (⟨0, ByteArray.empty, 0, 0⟩ : Tk)).gPlace_Line), .int .i64 ((((tkF s).l).getD (i).toNat (⟨0, ByteArray.empty, 0, 0⟩ : Tk)).gPlace_Column)]) [.int .i64 ((((tkF s).l).getD (i).toNat (⟨0, ByteArray.empty, 0, 0⟩ : Tk)).gKind), .string ((((tkF s).l).getD (i).toNat (⟨0, ByteArray.empty, 0, 0⟩ : Tk)).gText), .int .i64 ((((tkF s).l).getD (i).toNat (⟨0, ByteArray.empty, 0, 0⟩ : Tk)).gPlace_Line), .int .i64 ((((tkF s).l).getD (i).toNat (⟨0, ByteArray.empty, 0, 0⟩ : Tk)).gPlace_Column)] [box b3 [.int .i64 ((((tkF s).l).getD (i).toNat (⟨0, ByteArray.empty, 0, 0⟩ : Tk)).gKind), .string ((((tkF s).l).getD (i).toNat (⟨0, ByteArray.empty, 0, 0⟩ : Tk)).gText), .int .i64 ((((tkF s).l).getD (i).toNat (⟨0, ByteArray.empty, 0, 0⟩ : Tk)).gPlace_Line), .int .i64 ((((tkF s).l).getD (i).toNat (⟨0, ByteArray.empty, 0, 0⟩ : Tk)).gPlace_Column)] 36, box b2 ((piecesB 10 s).map Value.string) 9, box b1 [.int .i64 ((tkF s).pl), .int .i64 ((tkF s).pc)] 25, rowOf tkE ra1 rc1 36 4 ((tkF s).l)] (by kernel_rfl) rfl (by kernel_rfl) (by kernel_rfl) rfl ?_
          intro w8 S8
          refine J.run 3 K4_12 [(7, .int .i64 i), (8, .pointer (some ⟨b3, 0, none⟩)), (59, .int .i64 i), (58, .int .i64 (((tkF s).l).length : Int)), (57, .slice ra1 (((tkF s).l).length) rc1), (6, .slice (some ⟨b2, 0, none⟩) ((piecesB 10 s).length) ((piecesB 10 s).length)), (3, .slice ra1 (((tkF s).l).length) rc1)] w8 (by kernel_rfl) ?_
          by_cases fk4 : ((((tkF s).l).getD (i).toNat (⟨0, ByteArray.empty, 0, 0⟩ : Tk)).gPlace_Line) < 1
          · skip
            refine J.drawStill S8 33 Tryd.mixed (by kernel_rfl) (by kernel_rfl) (by kernel_rfl) ?_
            intro w9 S9
            refine SL.ok (by decide) (OK.run 64 (.pointer (some ⟨b3, 2, none⟩)) (by kernel_rfl)) ?_
            refine SL.ok (by decide) (OK.run 65 (.pointer (some ⟨b3, 2, none⟩)) (by kernel_rfl)) ?_
            refine SL.ok (by decide) (OK.ldBox S9 0 66 3 2 (.int .i64 ((((tkF s).l).getD (i).toNat (⟨0, ByteArray.empty, 0, 0⟩ : Tk)).gPlace_Line)) (by kernel_rfl) rfl (by kernel_rfl)) ?_
            refine SL.ok (by decide) (OK.run 67 (.bool (decide (((((tkF s).l).getD (i).toNat (⟨0, ByteArray.empty, 0, 0⟩ : Tk)).gPlace_Line) < 1))) (by kernel_rfl)) ?_
            refine SL.head (.bool true) (congrArg Value.bool (decide_eq_true fk4)) ?_
            refine SL.ok (by decide) (OK.run 68 (.bool true) (by kernel_rfl)) ?_
            refine SL.pass (d := some 69) (by decide) (by kernel_rfl) ?_
            refine SL.pass (d := some 70) (by decide) (by kernel_rfl) ?_
            refine SL.pass (d := some 71) (by decide) (by kernel_rfl) ?_
            refine SL.pass (d := some 72) (by decide) (by kernel_rfl) ?_
            refine SL.pass (d := some 73) (by decide) (by kernel_rfl) ?_
            refine SL.pass (d := some 74) (by decide) (by kernel_rfl) ?_
            refine SL.ok (by decide) (OK.run 75 (.bool true) (by kernel_rfl)) ?_
            refine SL.ok (by decide) (OK.run 76 (.bool true) (by kernel_rfl)) ?_
            refine SL.pass (d := some 77) (by decide) (by kernel_rfl) ?_
            refine SL.pass (d := some 78) (by decide) (by kernel_rfl) ?_
            refine SL.pass (d := some 79) (by decide) (by kernel_rfl) ?_
            refine SL.pass (d := some 80) (by decide) (by kernel_rfl) ?_
            refine SL.ok (by decide) (OK.run 81 (.bool true) (by kernel_rfl)) ?_
            refine SL.ok (by decide) (OK.run 82 (.bool true) (by kernel_rfl)) ?_
            refine SL.pass (d := some 83) (by decide) (by kernel_rfl) ?_
            refine SL.pass (d := some 84) (by decide) (by kernel_rfl) ?_
            refine SL.pass (d := some 85) (by decide) (by kernel_rfl) ?_
            refine SL.pass (d := some 86) (by decide) (by kernel_rfl) ?_
            refine SL.pass (d := some 87) (by decide) (by kernel_rfl) ?_
            refine SL.pass (d := some 88) (by decide) (by kernel_rfl) ?_
            refine SL.pass (d := some 89) (by decide) (by kernel_rfl) ?_
            refine SL.pass (d := some 90) (by decide) (by kernel_rfl) ?_
            refine SL.pass (d := some 91) (by decide) (by kernel_rfl) ?_
            refine SL.pass (d := some 92) (by decide) (by kernel_rfl) ?_
            refine SL.pass (d := some 93) (by decide) (by kernel_rfl) ?_
            refine SL.pass (d := some 94) (by decide) (by kernel_rfl) ?_
            refine SL.pass (d := some 95) (by decide) (by kernel_rfl) ?_
            refine SL.ok (by decide) (OK.run 96 (.bool true) (by kernel_rfl)) ?_
            refine SL.done ?_
            refine TL.done (by kernel_rfl) ?_
            refine J.run 0 (rRest K4_12) [(96, .bool true), (7, .int .i64 i), (8, .pointer (some ⟨b3, 0, none⟩)), (59, .int .i64 i), (58, .int .i64 (((tkF s).l).length : Int)), (57, .slice ra1 (((tkF s).l).length) rc1), (6, .slice (some ⟨b2, 0, none⟩) ((piecesB 10 s).length) ((piecesB 10 s).length)), (3, .slice ra1 (((tkF s).l).length) rc1)] w9 (by kernel_rfl) ?_
            refine J.run 5 K4_13 [(2, .bool false)] w9 (by kernel_rfl) ?_
            refine J.ret Tryd.f4 [.bool false] Tryd.func4 ⟨by kernel_rfl, trivial⟩ ?_
            refine hR _ _ ?_
            exfalso
            omega
          · skip
            by_cases fk5 : ((((tkF s).l).getD (i).toNat (⟨0, ByteArray.empty, 0, 0⟩ : Tk)).gPlace_Line) > ((piecesB 10 s).length : Int)
            · skip
              refine J.drawStill S8 33 Tryd.mixed (by kernel_rfl) (by kernel_rfl) (by kernel_rfl) ?_
              intro w10 S10
              refine SL.ok (by decide) (OK.run 64 (.pointer (some ⟨b3, 2, none⟩)) (by kernel_rfl)) ?_
              refine SL.ok (by decide) (OK.run 65 (.pointer (some ⟨b3, 2, none⟩)) (by kernel_rfl)) ?_
              refine SL.ok (by decide) (OK.ldBox S10 0 66 3 2 (.int .i64 ((((tkF s).l).getD (i).toNat (⟨0, ByteArray.empty, 0, 0⟩ : Tk)).gPlace_Line)) (by kernel_rfl) rfl (by kernel_rfl)) ?_
              refine SL.ok (by decide) (OK.run 67 (.bool (decide (((((tkF s).l).getD (i).toNat (⟨0, ByteArray.empty, 0, 0⟩ : Tk)).gPlace_Line) < 1))) (by kernel_rfl)) ?_
              refine SL.head (.bool false) (congrArg Value.bool (decide_eq_false fk4)) ?_
              refine SL.ok (by decide) (OK.run 68 (.bool false) (by kernel_rfl)) ?_
              refine SL.ok (by decide) (OK.run 69 (.pointer (some ⟨b3, 2, none⟩)) (by kernel_rfl)) ?_
              refine SL.ok (by decide) (OK.run 70 (.pointer (some ⟨b3, 2, none⟩)) (by kernel_rfl)) ?_
              refine SL.ok (by decide) (OK.ldBox S10 0 71 3 2 (.int .i64 ((((tkF s).l).getD (i).toNat (⟨0, ByteArray.empty, 0, 0⟩ : Tk)).gPlace_Line)) (by kernel_rfl) rfl (by kernel_rfl)) ?_
              refine SL.ok (by decide) (OK.run 72 (.slice (some ⟨b2, 0, none⟩) ((piecesB 10 s).length) ((piecesB 10 s).length)) (by kernel_rfl)) ?_
              refine SL.ok (by decide) (OK.run 73 (.int .i64 ((piecesB 10 s).length : Int)) (by kernel_rfl)) ?_
              refine SL.ok (by decide) (OK.run 74 (.bool (decide (((((tkF s).l).getD (i).toNat (⟨0, ByteArray.empty, 0, 0⟩ : Tk)).gPlace_Line) > ((piecesB 10 s).length : Int)))) (by kernel_rfl)) ?_
              refine SL.head (.bool true) (congrArg Value.bool (decide_eq_true fk5)) ?_
              refine SL.ok (by decide) (OK.run 75 (.bool true) (by kernel_rfl)) ?_
              refine SL.ok (by decide) (OK.run 76 (.bool true) (by kernel_rfl)) ?_
              refine SL.pass (d := some 77) (by decide) (by kernel_rfl) ?_
              refine SL.pass (d := some 78) (by decide) (by kernel_rfl) ?_
              refine SL.pass (d := some 79) (by decide) (by kernel_rfl) ?_
              refine SL.pass (d := some 80) (by decide) (by kernel_rfl) ?_
              refine SL.ok (by decide) (OK.run 81 (.bool true) (by kernel_rfl)) ?_
              refine SL.ok (by decide) (OK.run 82 (.bool true) (by kernel_rfl)) ?_
              refine SL.pass (d := some 83) (by decide) (by kernel_rfl) ?_
              refine SL.pass (d := some 84) (by decide) (by kernel_rfl) ?_
              refine SL.pass (d := some 85) (by decide) (by kernel_rfl) ?_
              refine SL.pass (d := some 86) (by decide) (by kernel_rfl) ?_
              refine SL.pass (d := some 87) (by decide) (by kernel_rfl) ?_
              refine SL.pass (d := some 88) (by decide) (by kernel_rfl) ?_
              refine SL.pass (d := some 89) (by decide) (by kernel_rfl) ?_
              refine SL.pass (d := some 90) (by decide) (by kernel_rfl) ?_
              refine SL.pass (d := some 91) (by decide) (by kernel_rfl) ?_
              refine SL.pass (d := some 92) (by decide) (by kernel_rfl) ?_
              refine SL.pass (d := some 93) (by decide) (by kernel_rfl) ?_
              refine SL.pass (d := some 94) (by decide) (by kernel_rfl) ?_
              refine SL.pass (d := some 95) (by decide) (by kernel_rfl) ?_
              refine SL.ok (by decide) (OK.run 96 (.bool true) (by kernel_rfl)) ?_
              refine SL.done ?_
              refine TL.done (by kernel_rfl) ?_
              refine J.run 0 (rRest K4_12) [(96, .bool true), (7, .int .i64 i), (8, .pointer (some ⟨b3, 0, none⟩)), (59, .int .i64 i), (58, .int .i64 (((tkF s).l).length : Int)), (57, .slice ra1 (((tkF s).l).length) rc1), (6, .slice (some ⟨b2, 0, none⟩) ((piecesB 10 s).length) ((piecesB 10 s).length)), (3, .slice ra1 (((tkF s).l).length) rc1)] w10 (by kernel_rfl) ?_
              refine J.run 5 K4_14 [(2, .bool false)] w10 (by kernel_rfl) ?_
              refine J.ret Tryd.f4 [.bool false] Tryd.func4 ⟨by kernel_rfl, trivial⟩ ?_
              refine hR _ _ ?_
              exfalso
              omega
            · skip
              by_cases fk6 : ((((tkF s).l).getD (i).toNat (⟨0, ByteArray.empty, 0, 0⟩ : Tk)).gPlace_Column) < 1
              · skip
                refine J.drawStill S8 33 Tryd.mixed (by kernel_rfl) (by kernel_rfl) (by kernel_rfl) ?_
                intro w11 S11
                refine SL.ok (by decide) (OK.run 64 (.pointer (some ⟨b3, 2, none⟩)) (by kernel_rfl)) ?_
                refine SL.ok (by decide) (OK.run 65 (.pointer (some ⟨b3, 2, none⟩)) (by kernel_rfl)) ?_
                refine SL.ok (by decide) (OK.ldBox S11 0 66 3 2 (.int .i64 ((((tkF s).l).getD (i).toNat (⟨0, ByteArray.empty, 0, 0⟩ : Tk)).gPlace_Line)) (by kernel_rfl) rfl (by kernel_rfl)) ?_
                refine SL.ok (by decide) (OK.run 67 (.bool (decide (((((tkF s).l).getD (i).toNat (⟨0, ByteArray.empty, 0, 0⟩ : Tk)).gPlace_Line) < 1))) (by kernel_rfl)) ?_
                refine SL.head (.bool false) (congrArg Value.bool (decide_eq_false fk4)) ?_
                refine SL.ok (by decide) (OK.run 68 (.bool false) (by kernel_rfl)) ?_
                refine SL.ok (by decide) (OK.run 69 (.pointer (some ⟨b3, 2, none⟩)) (by kernel_rfl)) ?_
                refine SL.ok (by decide) (OK.run 70 (.pointer (some ⟨b3, 2, none⟩)) (by kernel_rfl)) ?_
                refine SL.ok (by decide) (OK.ldBox S11 0 71 3 2 (.int .i64 ((((tkF s).l).getD (i).toNat (⟨0, ByteArray.empty, 0, 0⟩ : Tk)).gPlace_Line)) (by kernel_rfl) rfl (by kernel_rfl)) ?_
                refine SL.ok (by decide) (OK.run 72 (.slice (some ⟨b2, 0, none⟩) ((piecesB 10 s).length) ((piecesB 10 s).length)) (by kernel_rfl)) ?_
                refine SL.ok (by decide) (OK.run 73 (.int .i64 ((piecesB 10 s).length : Int)) (by kernel_rfl)) ?_
                refine SL.ok (by decide) (OK.run 74 (.bool (decide (((((tkF s).l).getD (i).toNat (⟨0, ByteArray.empty, 0, 0⟩ : Tk)).gPlace_Line) > ((piecesB 10 s).length : Int)))) (by kernel_rfl)) ?_
                refine SL.head (.bool false) (congrArg Value.bool (decide_eq_false fk5)) ?_
                refine SL.ok (by decide) (OK.run 75 (.bool false) (by kernel_rfl)) ?_
                refine SL.ok (by decide) (OK.run 76 (.bool false) (by kernel_rfl)) ?_
                refine SL.ok (by decide) (OK.run 77 (.pointer (some ⟨b3, 2, none⟩)) (by kernel_rfl)) ?_
                refine SL.ok (by decide) (OK.run 78 (.pointer (some ⟨b3, 3, none⟩)) (by kernel_rfl)) ?_
                refine SL.ok (by decide) (OK.ldBox S11 0 79 3 3 (.int .i64 ((((tkF s).l).getD (i).toNat (⟨0, ByteArray.empty, 0, 0⟩ : Tk)).gPlace_Column)) (by kernel_rfl) rfl (by kernel_rfl)) ?_
                refine SL.ok (by decide) (OK.run 80 (.bool (decide (((((tkF s).l).getD (i).toNat (⟨0, ByteArray.empty, 0, 0⟩ : Tk)).gPlace_Column) < 1))) (by kernel_rfl)) ?_
                refine SL.head (.bool true) (congrArg Value.bool (decide_eq_true fk6)) ?_
                refine SL.ok (by decide) (OK.run 81 (.bool true) (by kernel_rfl)) ?_
                refine SL.ok (by decide) (OK.run 82 (.bool true) (by kernel_rfl)) ?_
                refine SL.pass (d := some 83) (by decide) (by kernel_rfl) ?_
                refine SL.pass (d := some 84) (by decide) (by kernel_rfl) ?_
                refine SL.pass (d := some 85) (by decide) (by kernel_rfl) ?_
                refine SL.pass (d := some 86) (by decide) (by kernel_rfl) ?_
                refine SL.pass (d := some 87) (by decide) (by kernel_rfl) ?_
                refine SL.pass (d := some 88) (by decide) (by kernel_rfl) ?_
                refine SL.pass (d := some 89) (by decide) (by kernel_rfl) ?_
                refine SL.pass (d := some 90) (by decide) (by kernel_rfl) ?_
                refine SL.pass (d := some 91) (by decide) (by kernel_rfl) ?_
                refine SL.pass (d := some 92) (by decide) (by kernel_rfl) ?_
                refine SL.pass (d := some 93) (by decide) (by kernel_rfl) ?_
                refine SL.pass (d := some 94) (by decide) (by kernel_rfl) ?_
                refine SL.pass (d := some 95) (by decide) (by kernel_rfl) ?_
                refine SL.ok (by decide) (OK.run 96 (.bool true) (by kernel_rfl)) ?_
                refine SL.done ?_
                refine TL.done (by kernel_rfl) ?_
                refine J.run 0 (rRest K4_12) [(96, .bool true), (7, .int .i64 i), (8, .pointer (some ⟨b3, 0, none⟩)), (59, .int .i64 i), (58, .int .i64 (((tkF s).l).length : Int)), (57, .slice ra1 (((tkF s).l).length) rc1), (6, .slice (some ⟨b2, 0, none⟩) ((piecesB 10 s).length) ((piecesB 10 s).length)), (3, .slice ra1 (((tkF s).l).length) rc1)] w11 (by kernel_rfl) ?_
                refine J.run 5 K4_15 [(2, .bool false)] w11 (by kernel_rfl) ?_
                refine J.ret Tryd.f4 [.bool false] Tryd.func4 ⟨by kernel_rfl, trivial⟩ ?_
                refine hR _ _ ?_
                exfalso
                omega
              · skip
                obtain ⟨p2, hp2, hc2⟩ := (box_ones (S8.nth 1 rfl) ((piecesB 10 s).length) rfl).at ByteArray.empty (((((tkF s).l).getD (i).toNat (⟨0, ByteArray.empty, 0, 0⟩ : Tk)).gPlace_Line) - 1).toNat (by omega)
                refine J.drawStill S8 33 Tryd.mixed (by kernel_rfl) (by kernel_rfl) (by kernel_rfl) ?_
                intro w12 S12
                refine SL.ok (by decide) (OK.run 64 (.pointer (some ⟨b3, 2, none⟩)) (by kernel_rfl)) ?_
                refine SL.ok (by decide) (OK.run 65 (.pointer (some ⟨b3, 2, none⟩)) (by kernel_rfl)) ?_
                refine SL.ok (by decide) (OK.ldBox S12 0 66 3 2 (.int .i64 ((((tkF s).l).getD (i).toNat (⟨0, ByteArray.empty, 0, 0⟩ : Tk)).gPlace_Line)) (by kernel_rfl) rfl (by kernel_rfl)) ?_
                refine SL.ok (by decide) (OK.run 67 (.bool (decide (((((tkF s).l).getD (i).toNat (⟨0, ByteArray.empty, 0, 0⟩ : Tk)).gPlace_Line) < 1))) (by kernel_rfl)) ?_
                refine SL.head (.bool false) (congrArg Value.bool (decide_eq_false fk4)) ?_
                refine SL.ok (by decide) (OK.run 68 (.bool false) (by kernel_rfl)) ?_
                refine SL.ok (by decide) (OK.run 69 (.pointer (some ⟨b3, 2, none⟩)) (by kernel_rfl)) ?_
                refine SL.ok (by decide) (OK.run 70 (.pointer (some ⟨b3, 2, none⟩)) (by kernel_rfl)) ?_
                refine SL.ok (by decide) (OK.ldBox S12 0 71 3 2 (.int .i64 ((((tkF s).l).getD (i).toNat (⟨0, ByteArray.empty, 0, 0⟩ : Tk)).gPlace_Line)) (by kernel_rfl) rfl (by kernel_rfl)) ?_
                refine SL.ok (by decide) (OK.run 72 (.slice (some ⟨b2, 0, none⟩) ((piecesB 10 s).length) ((piecesB 10 s).length)) (by kernel_rfl)) ?_
                refine SL.ok (by decide) (OK.run 73 (.int .i64 ((piecesB 10 s).length : Int)) (by kernel_rfl)) ?_
                refine SL.ok (by decide) (OK.run 74 (.bool (decide (((((tkF s).l).getD (i).toNat (⟨0, ByteArray.empty, 0, 0⟩ : Tk)).gPlace_Line) > ((piecesB 10 s).length : Int)))) (by kernel_rfl)) ?_
                refine SL.head (.bool false) (congrArg Value.bool (decide_eq_false fk5)) ?_
                refine SL.ok (by decide) (OK.run 75 (.bool false) (by kernel_rfl)) ?_
                refine SL.ok (by decide) (OK.run 76 (.bool false) (by kernel_rfl)) ?_
                refine SL.ok (by decide) (OK.run 77 (.pointer (some ⟨b3, 2, none⟩)) (by kernel_rfl)) ?_
                refine SL.ok (by decide) (OK.run 78 (.pointer (some ⟨b3, 3, none⟩)) (by kernel_rfl)) ?_
                refine SL.ok (by decide) (OK.ldBox S12 0 79 3 3 (.int .i64 ((((tkF s).l).getD (i).toNat (⟨0, ByteArray.empty, 0, 0⟩ : Tk)).gPlace_Column)) (by kernel_rfl) rfl (by kernel_rfl)) ?_
                refine SL.ok (by decide) (OK.run 80 (.bool (decide (((((tkF s).l).getD (i).toNat (⟨0, ByteArray.empty, 0, 0⟩ : Tk)).gPlace_Column) < 1))) (by kernel_rfl)) ?_
                refine SL.head (.bool false) (congrArg Value.bool (decide_eq_false fk6)) ?_
                refine SL.ok (by decide) (OK.run 81 (.bool false) (by kernel_rfl)) ?_
                refine SL.ok (by decide) (OK.run 82 (.bool false) (by kernel_rfl)) ?_
                refine SL.ok (by decide) (OK.run 83 (.pointer (some ⟨b3, 2, none⟩)) (by kernel_rfl)) ?_
                refine SL.ok (by decide) (OK.run 84 (.pointer (some ⟨b3, 3, none⟩)) (by kernel_rfl)) ?_
                refine SL.ok (by decide) (OK.ldBox S12 0 85 3 3 (.int .i64 ((((tkF s).l).getD (i).toNat (⟨0, ByteArray.empty, 0, 0⟩ : Tk)).gPlace_Column)) (by kernel_rfl) rfl (by kernel_rfl)) ?_
                refine SL.ok (by decide) (OK.run 86 (.slice (some ⟨b2, 0, none⟩) ((piecesB 10 s).length) ((piecesB 10 s).length)) (by kernel_rfl)) ?_
                refine SL.ok (by decide) (OK.run 87 (.pointer (some ⟨b3, 2, none⟩)) (by kernel_rfl)) ?_
                refine SL.ok (by decide) (OK.run 88 (.pointer (some ⟨b3, 2, none⟩)) (by kernel_rfl)) ?_
                refine SL.ok (by decide) (OK.ldBox S12 0 89 3 2 (.int .i64 ((((tkF s).l).getD (i).toNat (⟨0, ByteArray.empty, 0, 0⟩ : Tk)).gPlace_Line)) (by kernel_rfl) rfl (by kernel_rfl)) ?_
                refine SL.ok (by decide) (OK.run 90 (.int .i64 (IntKind.wrap .i64 (((((tkF s).l).getD (i).toNat (⟨0, ByteArray.empty, 0, 0⟩ : Tk)).gPlace_Line) - 1))) (by kernel_rfl)) ?_
                refine SL.head (.int .i64 (((((tkF s).l).getD (i).toNat (⟨0, ByteArray.empty, 0, 0⟩ : Tk)).gPlace_Line) - 1)) (congrArg (Value.int .i64) (IntWalk.i64_in _ (by omega))) ?_
                obtain ⟨p3, hp3, hc3⟩ := (box_ones (S12.nth 1 rfl) ((piecesB 10 s).length) rfl).at ByteArray.empty (((((tkF s).l).getD (i).toNat (⟨0, ByteArray.empty, 0, 0⟩ : Tk)).gPlace_Line) - 1).toNat (by omega)
                refine SL.ok (by decide) (OK.index 91 33 1 (some ⟨b2, 0, none⟩) p3 ((piecesB 10 s).length) (((((tkF s).l).getD (i).toNat (⟨0, ByteArray.empty, 0, 0⟩ : Tk)).gPlace_Line) - 1).toNat (((((tkF s).l).getD (i).toNat (⟨0, ByteArray.empty, 0, 0⟩ : Tk)).gPlace_Line) - 1) (p3.add (((((tkF s).l).getD (i).toNat (⟨0, ByteArray.empty, 0, 0⟩ : Tk)).gPlace_Line) - 1).toNat) (by kernel_rfl) (by kernel_rfl) hp3 (by omega) (by omega) (by rw [Nat.mul_one])) ?_
                refine SL.ok (by decide) (OK.ldCell 92 9 (p3.add (((((tkF s).l).getD (i).toNat (⟨0, ByteArray.empty, 0, 0⟩ : Tk)).gPlace_Line) - 1).toNat) (.string ((piecesB 10 s).getD (((((tkF s).l).getD (i).toNat (⟨0, ByteArray.empty, 0, 0⟩ : Tk)).gPlace_Line) - 1).toNat ByteArray.empty)) (by kernel_rfl) (by kernel_rfl) hc3) ?_
                refine SL.ok (by decide) (OK.run 93 (.int .i64 (((piecesB 10 s).getD (((((tkF s).l).getD (i).toNat (⟨0, ByteArray.empty, 0, 0⟩ : Tk)).gPlace_Line) - 1).toNat ByteArray.empty).size : Int)) (by kernel_rfl)) ?_
                refine SL.ok (by decide) (OK.run 94 (.int .i64 (IntKind.wrap .i64 ((((piecesB 10 s).getD (((((tkF s).l).getD (i).toNat (⟨0, ByteArray.empty, 0, 0⟩ : Tk)).gPlace_Line) - 1).toNat ByteArray.empty).size : Int) + 1))) (by kernel_rfl)) ?_
                refine SL.head (.int .i64 ((((piecesB 10 s).getD (((((tkF s).l).getD (i).toNat (⟨0, ByteArray.empty, 0, 0⟩ : Tk)).gPlace_Line) - 1).toNat ByteArray.empty).size : Int) + 1)) (congrArg (Value.int .i64) (IntWalk.i64_in _ (by omega))) ?_
                refine SL.ok (by decide) (OK.run 95 (.bool (decide (((((tkF s).l).getD (i).toNat (⟨0, ByteArray.empty, 0, 0⟩ : Tk)).gPlace_Column) > ((((piecesB 10 s).getD (((((tkF s).l).getD (i).toNat (⟨0, ByteArray.empty, 0, 0⟩ : Tk)).gPlace_Line) - 1).toNat ByteArray.empty).size : Int) + 1)))) (by kernel_rfl)) ?_
                refine SL.ok (by decide) (OK.run 96 (.bool (decide (((((tkF s).l).getD (i).toNat (⟨0, ByteArray.empty, 0, 0⟩ : Tk)).gPlace_Column) > ((((piecesB 10 s).getD (((((tkF s).l).getD (i).toNat (⟨0, ByteArray.empty, 0, 0⟩ : Tk)).gPlace_Line) - 1).toNat ByteArray.empty).size : Int) + 1)))) (by kernel_rfl)) ?_
                refine SL.done ?_
                refine TL.done (by kernel_rfl) ?_
                refine J.run 0 (rRest K4_12) [(96, .bool (decide (((((tkF s).l).getD (i).toNat (⟨0, ByteArray.empty, 0, 0⟩ : Tk)).gPlace_Column) > ((((piecesB 10 s).getD (((((tkF s).l).getD (i).toNat (⟨0, ByteArray.empty, 0, 0⟩ : Tk)).gPlace_Line) - 1).toNat ByteArray.empty).size : Int) + 1)))), (7, .int .i64 i), (8, .pointer (some ⟨b3, 0, none⟩)), (59, .int .i64 i), (58, .int .i64 (((tkF s).l).length : Int)), (57, .slice ra1 (((tkF s).l).length) rc1), (6, .slice (some ⟨b2, 0, none⟩) ((piecesB 10 s).length) ((piecesB 10 s).length)), (3, .slice ra1 (((tkF s).l).length) rc1)] w12 (by kernel_rfl) ?_
                by_cases fk7 : ((((tkF s).l).getD (i).toNat (⟨0, ByteArray.empty, 0, 0⟩ : Tk)).gPlace_Column) > ((((piecesB 10 s).getD (((((tkF s).l).getD (i).toNat (⟨0, ByteArray.empty, 0, 0⟩ : Tk)).gPlace_Line) - 1).toNat ByteArray.empty).size : Int) + 1)
                · skip
                  refine J.head (.bool true) (congrArg Value.bool (decide_eq_true fk7)) ?_
                  refine J.run 5 K4_16 [(2, .bool false)] w12 (by kernel_rfl) ?_
                  refine J.ret Tryd.f4 [.bool false] Tryd.func4 ⟨by kernel_rfl, trivial⟩ ?_
                  refine hR _ _ ?_
                  exfalso
                  omega
                · skip
                  refine J.head (.bool false) (congrArg Value.bool (decide_eq_false fk7)) ?_
                  refine J.run 4 K4_17 [(7, .int .i64 i), (8, .pointer (some ⟨b3, 0, none⟩)), (59, .int .i64 i), (58, .int .i64 (((tkF s).l).length : Int)), (57, .slice ra1 (((tkF s).l).length) rc1), (6, .slice (some ⟨b2, 0, none⟩) ((piecesB 10 s).length) ((piecesB 10 s).length)), (3, .slice ra1 (((tkF s).l).length) rc1)] w12 (by kernel_rfl) ?_
                  have fk8 : (preB (((piecesB 10 s).getD (((((tkF s).l).getD (i).toNat (⟨0, ByteArray.empty, 0, 0⟩ : Tk)).gPlace_Line) - 1).toNat ByteArray.empty).extract ((((((tkF s).l).getD (i).toNat (⟨0, ByteArray.empty, 0, 0⟩ : Tk)).gPlace_Column) - 1).toNat) (((piecesB 10 s).getD (((((tkF s).l).getD (i).toNat (⟨0, ByteArray.empty, 0, 0⟩ : Tk)).gPlace_Line) - 1).toNat ByteArray.empty).size)) ((((tkF s).l).getD (i).toNat (⟨0, ByteArray.empty, 0, 0⟩ : Tk)).gText)) = true := pre_line s px1 px3
                  refine J.drawPlan (fun w_ => Sep w [box b3 [.int .i64 ((((tkF s).l).getD (i).toNat (⟨0, ByteArray.empty, 0, 0⟩ : Tk)).gKind), .string ((((tkF s).l).getD (i).toNat (⟨0, ByteArray.empty, 0, 0⟩ : Tk)).gText), .int .i64 ((((tkF s).l).getD (i).toNat (⟨0, ByteArray.empty, 0, 0⟩ : Tk)).gPlace_Line), .int .i64 ((((tkF s).l).getD (i).toNat (⟨0, ByteArray.empty, 0, 0⟩ : Tk)).gPlace_Column)] 36, box b2 ((piecesB 10 s).map Value.string) 9, box b1 [.int .i64 ((tkF s).pl), .int .i64 ((tkF s).pc)] 25, rowOf tkE ra1 rc1 36 4 ((tkF s).l)] w_) [(0, true), (1, true), (2, true), (3, true), (4, true), (5, true), (7, true), (8, true), (9, true), (10, true), (12, true), (13, true), (6, false), (11, true), (14, false), (15, true), (16, true), (17, true), (18, true), (19, true), (20, true), (21, true), (22, true), (23, true), (24, true)] S12 Tryd.mixed (by kernel_rfl) (planOK_of (T := [(0, some 97, 64), (0, some 98, 256), (2, some 99, 316912650057057350374175801344), (4, some 100, 633825300114114700748351602688), (8, some 101, 1267650600228229401496703205376), (17, some 102, 2693757525484987478180494311424), (32, some 103, 5070602400912917605986812821504), (0, some 104, 256), (128, some 105, 20282409603651670423947251286016), (256, some 106, 40564819207303340847894502572032), (512, some 107, 81129638414606681695789005144064), (1088, some 108, 172400481631039198603551635931136), (0, some 109, 256), (4096, some 110, 649037107316853453566312041152512), (10240, some 111, 1622592768292133633915780102881280), (16384, some 112, 2596148429267413814265248164610048), (49152, some 113, 5192296858534827628530496329220096), (65536, some 114, 10384593717069655257060992658440448), (196608, some 115, 31153781151208965771182977975320576), (327680, some 116, 51922968585348276285304963292200960), (65536, some 117, 10384593717069655257060992658440448), (1114112, some 118, 176538093190184139370036875193483264), (2162688, some 119, 342691592663298623483012757728526336), (4784128, some 120, 758075341346084833765452464066134016), (8454144, some 121, 1339612589501985528160868052938784768)]) (by kernel_rfl) (by kernel_rfl)) ?_
                  intro w13 S13
                  refine PB.mk (S13.sub (.cons_cons _ (.cons_cons _ (.cons_cons _ (.cons_cons _ (.slnil)))))) ?_
                  refine PL.take 0 97 (.slice (some ⟨b2, 0, none⟩) ((piecesB 10 s).length) ((piecesB 10 s).length)) (fun _ _ => by kernel_rfl) ?_
                  refine PL.take 1 98 (.pointer (some ⟨b3, 2, none⟩)) (fun _ _ => by kernel_rfl) ?_
                  refine PL.take 2 99 (.pointer (some ⟨b3, 2, none⟩)) (fun _ _ => by kernel_rfl) ?_
                  refine PL.takeOK 3 (fun w_ S_ => OK.ldBox S_ 0 100 3 2 (.int .i64 ((((tkF s).l).getD (i).toNat (⟨0, ByteArray.empty, 0, 0⟩ : Tk)).gPlace_Line)) (by kernel_rfl) rfl (by kernel_rfl)) rfl ?_
                  refine PL.take 4 101 (.int .i64 (IntKind.wrap .i64 (((((tkF s).l).getD (i).toNat (⟨0, ByteArray.empty, 0, 0⟩ : Tk)).gPlace_Line) - 1))) (fun _ _ => by kernel_rfl) ?_
                  refine PL.head (.int .i64 (((((tkF s).l).getD (i).toNat (⟨0, ByteArray.empty, 0, 0⟩ : Tk)).gPlace_Line) - 1)) (congrArg (Value.int .i64) (IntWalk.i64_in _ (by omega))) ?_
                  obtain ⟨p4, hp4, hc4⟩ := (box_ones (S13.nth 1 rfl) ((piecesB 10 s).length) rfl).at ByteArray.empty (((((tkF s).l).getD (i).toNat (⟨0, ByteArray.empty, 0, 0⟩ : Tk)).gPlace_Line) - 1).toNat (by omega)
                  refine PL.takeOK 5 (fun w_ S_ => OK.index 102 33 1 (some ⟨b2, 0, none⟩) p4 ((piecesB 10 s).length) (((((tkF s).l).getD (i).toNat (⟨0, ByteArray.empty, 0, 0⟩ : Tk)).gPlace_Line) - 1).toNat (((((tkF s).l).getD (i).toNat (⟨0, ByteArray.empty, 0, 0⟩ : Tk)).gPlace_Line) - 1) (p4.add (((((tkF s).l).getD (i).toNat (⟨0, ByteArray.empty, 0, 0⟩ : Tk)).gPlace_Line) - 1).toNat) (by kernel_rfl) (by kernel_rfl) hp4 (by omega) (by omega) (by rw [Nat.mul_one])) rfl ?_
                  refine PL.take 7 104 (.pointer (some ⟨b3, 2, none⟩)) (fun _ _ => by kernel_rfl) ?_
                  refine PL.take 8 105 (.pointer (some ⟨b3, 3, none⟩)) (fun _ _ => by kernel_rfl) ?_
                  refine PL.takeOK 9 (fun w_ S_ => OK.ldBox S_ 0 106 3 3 (.int .i64 ((((tkF s).l).getD (i).toNat (⟨0, ByteArray.empty, 0, 0⟩ : Tk)).gPlace_Column)) (by kernel_rfl) rfl (by kernel_rfl)) rfl ?_
                  refine PL.take 10 107 (.int .i64 (IntKind.wrap .i64 (((((tkF s).l).getD (i).toNat (⟨0, ByteArray.empty, 0, 0⟩ : Tk)).gPlace_Column) - 1))) (fun _ _ => by kernel_rfl) ?_
                  refine PL.head (.int .i64 (((((tkF s).l).getD (i).toNat (⟨0, ByteArray.empty, 0, 0⟩ : Tk)).gPlace_Column) - 1)) (congrArg (Value.int .i64) (IntWalk.i64_in _ (by omega))) ?_
                  refine PL.take 12 109 (.pointer (some ⟨b3, 1, none⟩)) (fun _ _ => by kernel_rfl) ?_
                  refine PL.takeOK 13 (fun w_ S_ => OK.ldBox S_ 0 110 9 1 (.string ((((tkF s).l).getD (i).toNat (⟨0, ByteArray.empty, 0, 0⟩ : Tk)).gText)) (by kernel_rfl) rfl (by kernel_rfl)) rfl ?_
                  refine PL.ok (OK.ldCell 103 9 (p4.add (((((tkF s).l).getD (i).toNat (⟨0, ByteArray.empty, 0, 0⟩ : Tk)).gPlace_Line) - 1).toNat) (.string ((piecesB 10 s).getD (((((tkF s).l).getD (i).toNat (⟨0, ByteArray.empty, 0, 0⟩ : Tk)).gPlace_Line) - 1).toNat ByteArray.empty)) (by kernel_rfl) (by kernel_rfl) hc4) ?_
                  refine PB.mk (S13.sub (.cons_cons _ (.cons_cons _ (.cons_cons _ (.cons_cons _ (.slnil)))))) ?_
                  refine PL.takeOK 11 (fun w_ S_ => OK.sliceT 108 9 ((piecesB 10 s).getD (((((tkF s).l).getD (i).toNat (⟨0, ByteArray.empty, 0, 0⟩ : Tk)).gPlace_Line) - 1).toNat ByteArray.empty) (some (.int .i64 (((((tkF s).l).getD (i).toNat (⟨0, ByteArray.empty, 0, 0⟩ : Tk)).gPlace_Column) - 1))) none ((((((tkF s).l).getD (i).toNat (⟨0, ByteArray.empty, 0, 0⟩ : Tk)).gPlace_Column) - 1).toNat) (((piecesB 10 s).getD (((((tkF s).l).getD (i).toNat (⟨0, ByteArray.empty, 0, 0⟩ : Tk)).gPlace_Line) - 1).toNat ByteArray.empty).size) (by kernel_rfl) (by kernel_rfl) (.inr ⟨_, _, rfl, by omega⟩) (.inl ⟨rfl, rfl⟩) (by first | omega | (simp; omega)) (by first | omega | (simp; omega))) rfl ?_
                  refine PL.callF 111 14 #[.string (((piecesB 10 s).getD (((((tkF s).l).getD (i).toNat (⟨0, ByteArray.empty, 0, 0⟩ : Tk)).gPlace_Line) - 1).toNat ByteArray.empty).extract ((((((tkF s).l).getD (i).toNat (⟨0, ByteArray.empty, 0, 0⟩ : Tk)).gPlace_Column) - 1).toNat) (((piecesB 10 s).getD (((((tkF s).l).getD (i).toNat (⟨0, ByteArray.empty, 0, 0⟩ : Tk)).gPlace_Line) - 1).toNat ByteArray.empty).size)), .string ((((tkF s).l).getD (i).toNat (⟨0, ByteArray.empty, 0, 0⟩ : Tk)).gText)] hb14 (by kernel_rfl) (hasprefix_any (((piecesB 10 s).getD (((((tkF s).l).getD (i).toNat (⟨0, ByteArray.empty, 0, 0⟩ : Tk)).gPlace_Line) - 1).toNat ByteArray.empty).extract ((((((tkF s).l).getD (i).toNat (⟨0, ByteArray.empty, 0, 0⟩ : Tk)).gPlace_Column) - 1).toNat) (((piecesB 10 s).getD (((((tkF s).l).getD (i).toNat (⟨0, ByteArray.empty, 0, 0⟩ : Tk)).gPlace_Line) - 1).toNat ByteArray.empty).size)) ((((tkF s).l).getD (i).toNat (⟨0, ByteArray.empty, 0, 0⟩ : Tk)).gText) _) ?_
                  rintro _ w14 ⟨rfl, T4⟩
                  have S14 : Sep w [box b3 [.int .i64 ((((tkF s).l).getD (i).toNat (⟨0, ByteArray.empty, 0, 0⟩ : Tk)).gKind), .string ((((tkF s).l).getD (i).toNat (⟨0, ByteArray.empty, 0, 0⟩ : Tk)).gText), .int .i64 ((((tkF s).l).getD (i).toNat (⟨0, ByteArray.empty, 0, 0⟩ : Tk)).gPlace_Line), .int .i64 ((((tkF s).l).getD (i).toNat (⟨0, ByteArray.empty, 0, 0⟩ : Tk)).gPlace_Column)] 36, box b2 ((piecesB 10 s).map Value.string) 9, box b1 [.int .i64 ((tkF s).pl), .int .i64 ((tkF s).pc)] 25, rowOf tkE ra1 rc1 36 4 ((tkF s).l)] w14 := S13.trans T4
                  clear T4 S13
                  refine PB.head (.bool true) (congrArg Value.bool fk8) ?_
                  refine PB.mk (S14.sub (.cons_cons _ (.cons_cons _ (.cons_cons _ (.cons_cons _ (.slnil)))))) ?_
                  refine PL.take 15 112 (.bool false) (fun _ _ => by kernel_rfl) ?_
                  refine PL.take 16 113 (.bool false) (fun _ _ => by kernel_rfl) ?_
                  refine PL.take 17 114 (.pointer (some ⟨b3, 0, none⟩)) (fun _ _ => by kernel_rfl) ?_
                  refine PL.takeOK 18 (fun w_ S_ => OK.ldBox S_ 0 115 3 0 (.int .i64 ((((tkF s).l).getD (i).toNat (⟨0, ByteArray.empty, 0, 0⟩ : Tk)).gKind)) (by kernel_rfl) rfl (by kernel_rfl)) rfl ?_
                  refine PL.take 19 116 (.bool (((((tkF s).l).getD (i).toNat (⟨0, ByteArray.empty, 0, 0⟩ : Tk)).gKind) == 4)) (fun _ _ => by kernel_rfl) ?_
                  refine PL.take 20 117 (.pointer (some ⟨b3, 1, none⟩)) (fun _ _ => by kernel_rfl) ?_
                  refine PL.takeOK 21 (fun w_ S_ => OK.ldBox S_ 0 118 9 1 (.string ((((tkF s).l).getD (i).toNat (⟨0, ByteArray.empty, 0, 0⟩ : Tk)).gText)) (by kernel_rfl) rfl (by kernel_rfl)) rfl ?_
                  refine PL.take 22 119 (.bool (((((tkF s).l).getD (i).toNat (⟨0, ByteArray.empty, 0, 0⟩ : Tk)).gText).toList == (⟨#[]⟩ : ByteArray).toList)) (fun _ _ => by kernel_rfl) ?_
                  refine PL.head (.bool ((((((tkF s).l).getD (i).toNat (⟨0, ByteArray.empty, 0, 0⟩ : Tk)).gText).size : Int) == 0)) (congrArg Value.bool (beq_nil_eql _)) ?_
                  refine PL.take 23 120 (.bool (!((((((tkF s).l).getD (i).toNat (⟨0, ByteArray.empty, 0, 0⟩ : Tk)).gKind) == 4) == ((((((tkF s).l).getD (i).toNat (⟨0, ByteArray.empty, 0, 0⟩ : Tk)).gText).size : Int) == 0)))) (fun _ _ => by kernel_rfl) ?_
                  refine PL.take 24 121 (.bool (!((((((tkF s).l).getD (i).toNat (⟨0, ByteArray.empty, 0, 0⟩ : Tk)).gKind) == 4) == ((((((tkF s).l).getD (i).toNat (⟨0, ByteArray.empty, 0, 0⟩ : Tk)).gText).size : Int) == 0)))) (fun _ _ => by kernel_rfl) ?_
                  refine PL.done ?_
                  refine J.run 0 (rRest K4_17) [(121, .bool (!((((((tkF s).l).getD (i).toNat (⟨0, ByteArray.empty, 0, 0⟩ : Tk)).gKind) == 4) == ((((((tkF s).l).getD (i).toNat (⟨0, ByteArray.empty, 0, 0⟩ : Tk)).gText).size : Int) == 0)))), (7, .int .i64 i), (8, .pointer (some ⟨b3, 0, none⟩)), (59, .int .i64 i), (58, .int .i64 (((tkF s).l).length : Int)), (57, .slice ra1 (((tkF s).l).length) rc1), (6, .slice (some ⟨b2, 0, none⟩) ((piecesB 10 s).length) ((piecesB 10 s).length)), (3, .slice ra1 (((tkF s).l).length) rc1)] w14 (by kernel_rfl) ?_
                  have fk10 : (!((((((tkF s).l).getD (i).toNat (⟨0, ByteArray.empty, 0, 0⟩ : Tk)).gKind) == 4) == ((((((tkF s).l).getD (i).toNat (⟨0, ByteArray.empty, 0, 0⟩ : Tk)).gText).size : Int) == 0))) = false := bool_iff px4
                  refine J.head (.bool false) (congrArg Value.bool fk10) ?_
                  refine J.run 8 K4_18 [(123, .bool (i == 0)), (7, .int .i64 i), (8, .pointer (some ⟨b3, 0, none⟩)), (59, .int .i64 i), (58, .int .i64 (((tkF s).l).length : Int)), (57, .slice ra1 (((tkF s).l).length) rc1), (6, .slice (some ⟨b2, 0, none⟩) ((piecesB 10 s).length) ((piecesB 10 s).length)), (3, .slice ra1 (((tkF s).l).length) rc1)] w14 (by kernel_rfl) ?_
                  by_cases fk11 : i = 0
                  · skip
                    refine J.head (.bool true) (congrArg Value.bool (beq_iff_eq.2 fk11)) ?_
                    refine J.run 4 K4_19 [(167, .int .i64 (IntKind.wrap .i64 (i + 1))), (58, .int .i64 (((tkF s).l).length : Int)), (57, .slice ra1 (((tkF s).l).length) rc1), (6, .slice (some ⟨b2, 0, none⟩) ((piecesB 10 s).length) ((piecesB 10 s).length)), (3, .slice ra1 (((tkF s).l).length) rc1)] w14 (by kernel_rfl) ?_
                    refine J.head (.int .i64 (i + 1)) (congrArg (Value.int .i64) (IntWalk.i64_in _ (by omega))) ?_
                    refine J.run 3 K4_8 [(59, .int .i64 (i + 1)), (58, .int .i64 (((tkF s).l).length : Int)), (57, .slice ra1 (((tkF s).l).length) rc1), (6, .slice (some ⟨b2, 0, none⟩) ((piecesB 10 s).length) ((piecesB 10 s).length)), (3, .slice ra1 (((tkF s).l).length) rc1)] w14 (by kernel_rfl) ?_
                    have S15 : Sep w [box b2 ((piecesB 10 s).map Value.string) 9, box b1 [.int .i64 ((tkF s).pl), .int .i64 ((tkF s).pc)] 25, rowOf tkE ra1 rc1 36 4 ((tkF s).l)] w14 := S14.erase 0
                    clear S14
                    refine J.run 0 K4_8 [(59, .int .i64 (i + 1)), (58, .int .i64 (((tkF s).l).length : Int)), (57, .slice ra1 (((tkF s).l).length) rc1), (6, .slice (some ⟨b2, 0, none⟩) ((piecesB 10 s).length) ((piecesB 10 s).length)), (3, .slice ra1 (((tkF s).l).length) rc1)] w14 (by kernel_rfl) ?_
                    exact ih1 _ (show (((tkF s).l.length : Int) - (i + 1)).toNat < mm1 from by omega) (i + 1) w14 (by omega) (by omega) S15 rfl
                  · skip
                    refine J.head (.bool false) (congrArg Value.bool (beq_eq_false_iff_ne.2 fk11)) ?_
                    have hY : RT ((tkF s).l.getD (i - 1).toNat (⟨0, ByteArray.empty, 0, 0⟩ : Tk)) ((tkF s).l.getD (i).toNat (⟨0, ByteArray.empty, 0, 0⟩ : Tk)) := by (have hh := o2 (i - 1).toNat (by omega)); rw [show (i - 1).toNat + 1 = i.toNat by omega] at hh; exact hh
                    obtain ⟨q1, q2, q3⟩ := hY
                    refine J.run 7 K4_20 [(126, .int .i64 (IntKind.wrap .i64 (i - 1))), (124, .slice ra1 (((tkF s).l).length) rc1), (8, .pointer (some ⟨b3, 0, none⟩)), (59, .int .i64 i), (58, .int .i64 (((tkF s).l).length : Int)), (57, .slice ra1 (((tkF s).l).length) rc1), (6, .slice (some ⟨b2, 0, none⟩) ((piecesB 10 s).length) ((piecesB 10 s).length)), (3, .slice ra1 (((tkF s).l).length) rc1)] w14 (by kernel_rfl) ?_
                    refine J.head (.int .i64 (i - 1)) (congrArg (Value.int .i64) (IntWalk.i64_in _ (by omega))) ?_
                    obtain ⟨p5, hp5, hc5⟩ := (rowOf_recs (S14.nth 3 rfl) _ rfl (fun _ => rfl) (by decide)).at (⟨0, ByteArray.empty, 0, 0⟩ : Tk) (i - 1).toNat (by omega)
                    refine J.ok (OK.index 127 23 4 ra1 p5 (((tkF s).l).length) (i - 1).toNat (i - 1) (p5.add ((i - 1).toNat * 4)) (by kernel_rfl) (by kernel_rfl) hp5 (by omega) (by omega) rfl) ?_
                    refine J.ok (OK.ldCells 128 36 (p5.add ((i - 1).toNat * 4)) [.int .i64 ((((tkF s).l).getD (i - 1).toNat (⟨0, ByteArray.empty, 0, 0⟩ : Tk)).gKind), .string ((((tkF s).l).getD (i - 1).toNat (⟨0, ByteArray.empty, 0, 0⟩ : Tk)).gText), .int .i64 ((((tkF s).l).getD (i - 1).toNat (⟨0, ByteArray.empty, 0, 0⟩ : Tk)).gPlace_Line), .int .i64 ((((tkF s).l).getD (i - 1).toNat (⟨0, ByteArray.empty, 0, 0⟩ : Tk)).gPlace_Column)] (by kernel_rfl) (by kernel_rfl) (by kernel_rfl) hc5) ?_
                    refine J.new S14 9 [.int .i64 0, .string ByteArray.empty, .int .i64 0, .int .i64 0] 36 (by kernel_rfl) ?_
                    intro b4 w15 S16
                    refine J.stBox S16 0 36 0 (.agg #[.int .i64 ((((tkF s).l).getD (i - 1).toNat (⟨0, ByteArray.empty, 0, 0⟩ : Tk)).gKind), .string ((((tkF s).l).getD (i - 1).toNat (⟨0, ByteArray.empty, 0, 0⟩ : Tk)).gText), .int .i64 ((((tkF s).l).getD (i - 1).toNat (⟨0, ByteArray.empty, 0, 0⟩ : Tk)).gPlace_Line), .int .i64 ((((tkF s).l).getD (i - 1).toNat (⟨0, ByteArray.empty, 0, 0⟩ : Tk)).gPlace_Column)]) [.int .i64 ((((tkF s).l).getD (i - 1).toNat (⟨0, ByteArray.empty, 0, 0⟩ : Tk)).gKind), .string ((((tkF s).l).getD (i - 1).toNat (⟨0, ByteArray.empty, 0, 0⟩ : Tk)).gText), .int .i64 ((((tkF s).l).getD (i - 1).toNat (⟨0, ByteArray.empty, 0, 0⟩ : Tk)).gPlace_Line), .int .i64 ((((tkF s).l).getD (i - 1).toNat (⟨0, ByteArray.empty, 0, 0⟩ : Tk)).gPlace_Column)] [box b4 [.int .i64 ((((tkF s).l).getD (i - 1).toNat (⟨0, ByteArray.empty, 0, 0⟩ : Tk)).gKind), .string ((((tkF s).l).getD (i - 1).toNat (⟨0, ByteArray.empty, 0, 0⟩ : Tk)).gText), .int .i64 ((((tkF s).l).getD (i - 1).toNat (⟨0, ByteArray.empty, 0, 0⟩ : Tk)).gPlace_Line), .int .i64 ((((tkF s).l).getD (i - 1).toNat (⟨0, ByteArray.empty, 0, 0⟩ : Tk)).gPlace_Column)] 36, box b3 [.int .i64 ((((tkF s).l).getD (i).toNat (⟨0, ByteArray.empty, 0, 0⟩ : Tk)).gKind), .string ((((tkF s).l).getD (i).toNat (⟨0, ByteArray.empty, 0, 0⟩ : Tk)).gText), .int .i64 ((((tkF s).l).getD (i).toNat (⟨0, ByteArray.empty, 0, 0⟩ : Tk)).gPlace_Line), .int .i64 ((((tkF s).l).getD (i).toNat (⟨0, ByteArray.empty, 0, 0⟩ : Tk)).gPlace_Column)] 36, box b2 ((piecesB 10 s).map Value.string) 9, box b1 [.int .i64 ((tkF s).pl), .int .i64 ((tkF s).pc)] 25, rowOf tkE ra1 rc1 36 4 ((tkF s).l)] (by kernel_rfl) rfl (by kernel_rfl) (by kernel_rfl) rfl ?_
                    intro w16 S17
                    refine J.run 5 K4_21 [(130, .pointer (some ⟨b4, 2, none⟩)), (9, .pointer (some ⟨b4, 0, none⟩)), (8, .pointer (some ⟨b3, 0, none⟩)), (59, .int .i64 i), (58, .int .i64 (((tkF s).l).length : Int)), (57, .slice ra1 (((tkF s).l).length) rc1), (6, .slice (some ⟨b2, 0, none⟩) ((piecesB 10 s).length) ((piecesB 10 s).length)), (3, .slice ra1 (((tkF s).l).length) rc1)] w16 (by kernel_rfl) ?_
                    refine J.ok (OK.ldBox S17 0 131 3 2 (.int .i64 ((((tkF s).l).getD (i - 1).toNat (⟨0, ByteArray.empty, 0, 0⟩ : Tk)).gPlace_Line)) (by kernel_rfl) rfl (by kernel_rfl)) ?_
                    refine J.run 2 K4_22 [(133, .pointer (some ⟨b3, 2, none⟩)), (131, .int .i64 ((((tkF s).l).getD (i - 1).toNat (⟨0, ByteArray.empty, 0, 0⟩ : Tk)).gPlace_Line)), (9, .pointer (some ⟨b4, 0, none⟩)), (8, .pointer (some ⟨b3, 0, none⟩)), (59, .int .i64 i), (58, .int .i64 (((tkF s).l).length : Int)), (57, .slice ra1 (((tkF s).l).length) rc1), (6, .slice (some ⟨b2, 0, none⟩) ((piecesB 10 s).length) ((piecesB 10 s).length)), (3, .slice ra1 (((tkF s).l).length) rc1)] w16 (by kernel_rfl) ?_
                    refine J.ok (OK.ldBox S17 1 134 3 2 (.int .i64 ((((tkF s).l).getD (i).toNat (⟨0, ByteArray.empty, 0, 0⟩ : Tk)).gPlace_Line)) (by kernel_rfl) rfl (by kernel_rfl)) ?_
                    refine J.run 2 K4_23 [(136, .bool (decide (((((tkF s).l).getD (i - 1).toNat (⟨0, ByteArray.empty, 0, 0⟩ : Tk)).gPlace_Line) > ((((tkF s).l).getD (i).toNat (⟨0, ByteArray.empty, 0, 0⟩ : Tk)).gPlace_Line)))), (9, .pointer (some ⟨b4, 0, none⟩)), (8, .pointer (some ⟨b3, 0, none⟩)), (59, .int .i64 i), (58, .int .i64 (((tkF s).l).length : Int)), (57, .slice ra1 (((tkF s).l).length) rc1), (6, .slice (some ⟨b2, 0, none⟩) ((piecesB 10 s).length) ((piecesB 10 s).length)), (3, .slice ra1 (((tkF s).l).length) rc1)] w16 (by kernel_rfl) ?_
                    by_cases fk12 : ((((tkF s).l).getD (i - 1).toNat (⟨0, ByteArray.empty, 0, 0⟩ : Tk)).gPlace_Line) > ((((tkF s).l).getD (i).toNat (⟨0, ByteArray.empty, 0, 0⟩ : Tk)).gPlace_Line)
                    · skip
                      refine J.head (.bool true) (congrArg Value.bool (decide_eq_true fk12)) ?_
                      refine J.run 36 K4_24 [(2, .bool false)] w16 (by kernel_rfl) ?_
                      refine J.ret Tryd.f4 [.bool false] Tryd.func4 ⟨by kernel_rfl, trivial⟩ ?_
                      refine hR _ _ ?_
                      exfalso
                      omega
                    · skip
                      refine J.head (.bool false) (congrArg Value.bool (decide_eq_false fk12)) ?_
                      refine J.run 2 K4_25 [(138, .pointer (some ⟨b4, 2, none⟩)), (136, .bool false), (9, .pointer (some ⟨b4, 0, none⟩)), (8, .pointer (some ⟨b3, 0, none⟩)), (59, .int .i64 i), (58, .int .i64 (((tkF s).l).length : Int)), (57, .slice ra1 (((tkF s).l).length) rc1), (6, .slice (some ⟨b2, 0, none⟩) ((piecesB 10 s).length) ((piecesB 10 s).length)), (3, .slice ra1 (((tkF s).l).length) rc1)] w16 (by kernel_rfl) ?_
                      refine J.ok (OK.ldBox S17 0 139 3 2 (.int .i64 ((((tkF s).l).getD (i - 1).toNat (⟨0, ByteArray.empty, 0, 0⟩ : Tk)).gPlace_Line)) (by kernel_rfl) rfl (by kernel_rfl)) ?_
                      refine J.run 2 K4_26 [(141, .pointer (some ⟨b3, 2, none⟩)), (139, .int .i64 ((((tkF s).l).getD (i - 1).toNat (⟨0, ByteArray.empty, 0, 0⟩ : Tk)).gPlace_Line)), (136, .bool false), (9, .pointer (some ⟨b4, 0, none⟩)), (8, .pointer (some ⟨b3, 0, none⟩)), (59, .int .i64 i), (58, .int .i64 (((tkF s).l).length : Int)), (57, .slice ra1 (((tkF s).l).length) rc1), (6, .slice (some ⟨b2, 0, none⟩) ((piecesB 10 s).length) ((piecesB 10 s).length)), (3, .slice ra1 (((tkF s).l).length) rc1)] w16 (by kernel_rfl) ?_
                      refine J.ok (OK.ldBox S17 1 142 3 2 (.int .i64 ((((tkF s).l).getD (i).toNat (⟨0, ByteArray.empty, 0, 0⟩ : Tk)).gPlace_Line)) (by kernel_rfl) rfl (by kernel_rfl)) ?_
                      refine J.run 2 K4_27 [(144, .bool (((((tkF s).l).getD (i - 1).toNat (⟨0, ByteArray.empty, 0, 0⟩ : Tk)).gPlace_Line) == ((((tkF s).l).getD (i).toNat (⟨0, ByteArray.empty, 0, 0⟩ : Tk)).gPlace_Line))), (136, .bool false), (9, .pointer (some ⟨b4, 0, none⟩)), (8, .pointer (some ⟨b3, 0, none⟩)), (59, .int .i64 i), (58, .int .i64 (((tkF s).l).length : Int)), (57, .slice ra1 (((tkF s).l).length) rc1), (6, .slice (some ⟨b2, 0, none⟩) ((piecesB 10 s).length) ((piecesB 10 s).length)), (3, .slice ra1 (((tkF s).l).length) rc1)] w16 (by kernel_rfl) ?_
                      by_cases fk13 : ((((tkF s).l).getD (i - 1).toNat (⟨0, ByteArray.empty, 0, 0⟩ : Tk)).gPlace_Line) = ((((tkF s).l).getD (i).toNat (⟨0, ByteArray.empty, 0, 0⟩ : Tk)).gPlace_Line)
                      · skip
                        refine J.head (.bool true) (congrArg Value.bool (beq_iff_eq.2 fk13)) ?_
                        refine J.run 2 K4_28 [(146, .pointer (some ⟨b4, 3, none⟩)), (144, .bool true), (136, .bool false), (9, .pointer (some ⟨b4, 0, none⟩)), (8, .pointer (some ⟨b3, 0, none⟩)), (59, .int .i64 i), (58, .int .i64 (((tkF s).l).length : Int)), (57, .slice ra1 (((tkF s).l).length) rc1), (6, .slice (some ⟨b2, 0, none⟩) ((piecesB 10 s).length) ((piecesB 10 s).length)), (3, .slice ra1 (((tkF s).l).length) rc1)] w16 (by kernel_rfl) ?_
                        refine J.ok (OK.ldBox S17 0 147 3 3 (.int .i64 ((((tkF s).l).getD (i - 1).toNat (⟨0, ByteArray.empty, 0, 0⟩ : Tk)).gPlace_Column)) (by kernel_rfl) rfl (by kernel_rfl)) ?_
                        refine J.run 2 K4_29 [(149, .pointer (some ⟨b3, 3, none⟩)), (147, .int .i64 ((((tkF s).l).getD (i - 1).toNat (⟨0, ByteArray.empty, 0, 0⟩ : Tk)).gPlace_Column)), (144, .bool true), (136, .bool false), (9, .pointer (some ⟨b4, 0, none⟩)), (8, .pointer (some ⟨b3, 0, none⟩)), (59, .int .i64 i), (58, .int .i64 (((tkF s).l).length : Int)), (57, .slice ra1 (((tkF s).l).length) rc1), (6, .slice (some ⟨b2, 0, none⟩) ((piecesB 10 s).length) ((piecesB 10 s).length)), (3, .slice ra1 (((tkF s).l).length) rc1)] w16 (by kernel_rfl) ?_
                        refine J.ok (OK.ldBox S17 1 150 3 3 (.int .i64 ((((tkF s).l).getD (i).toNat (⟨0, ByteArray.empty, 0, 0⟩ : Tk)).gPlace_Column)) (by kernel_rfl) rfl (by kernel_rfl)) ?_
                        refine J.run 4 K4_30 [(154, .bool (decide (((((tkF s).l).getD (i - 1).toNat (⟨0, ByteArray.empty, 0, 0⟩ : Tk)).gPlace_Column) ≥ ((((tkF s).l).getD (i).toNat (⟨0, ByteArray.empty, 0, 0⟩ : Tk)).gPlace_Column)))), (9, .pointer (some ⟨b4, 0, none⟩)), (8, .pointer (some ⟨b3, 0, none⟩)), (59, .int .i64 i), (58, .int .i64 (((tkF s).l).length : Int)), (57, .slice ra1 (((tkF s).l).length) rc1), (6, .slice (some ⟨b2, 0, none⟩) ((piecesB 10 s).length) ((piecesB 10 s).length)), (3, .slice ra1 (((tkF s).l).length) rc1)] w16 (by kernel_rfl) ?_
                        by_cases fk14 : ((((tkF s).l).getD (i - 1).toNat (⟨0, ByteArray.empty, 0, 0⟩ : Tk)).gPlace_Column) ≥ ((((tkF s).l).getD (i).toNat (⟨0, ByteArray.empty, 0, 0⟩ : Tk)).gPlace_Column)
                        · skip
                          refine J.head (.bool true) (congrArg Value.bool (decide_eq_true fk14)) ?_
                          refine J.run 18 K4_31 [(2, .bool false)] w16 (by kernel_rfl) ?_
                          refine J.ret Tryd.f4 [.bool false] Tryd.func4 ⟨by kernel_rfl, trivial⟩ ?_
                          refine hR _ _ ?_
                          exfalso
                          omega
                        · skip
                          refine J.head (.bool false) (congrArg Value.bool (decide_eq_false fk14)) ?_
                          refine J.run 1 K4_32 [(155, .pointer (some ⟨b4, 0, none⟩)), (154, .bool false), (9, .pointer (some ⟨b4, 0, none⟩)), (8, .pointer (some ⟨b3, 0, none⟩)), (59, .int .i64 i), (58, .int .i64 (((tkF s).l).length : Int)), (57, .slice ra1 (((tkF s).l).length) rc1), (6, .slice (some ⟨b2, 0, none⟩) ((piecesB 10 s).length) ((piecesB 10 s).length)), (3, .slice ra1 (((tkF s).l).length) rc1)] w16 (by kernel_rfl) ?_
                          refine J.ok (OK.ldBox S17 0 156 3 0 (.int .i64 ((((tkF s).l).getD (i - 1).toNat (⟨0, ByteArray.empty, 0, 0⟩ : Tk)).gKind)) (by kernel_rfl) rfl (by kernel_rfl)) ?_
                          refine J.run 3 K4_33 [(159, .pointer (some ⟨b4, 2, none⟩)), (157, .bool (((((tkF s).l).getD (i - 1).toNat (⟨0, ByteArray.empty, 0, 0⟩ : Tk)).gKind) == 4)), (154, .bool false), (8, .pointer (some ⟨b3, 0, none⟩)), (59, .int .i64 i), (58, .int .i64 (((tkF s).l).length : Int)), (57, .slice ra1 (((tkF s).l).length) rc1), (6, .slice (some ⟨b2, 0, none⟩) ((piecesB 10 s).length) ((piecesB 10 s).length)), (3, .slice ra1 (((tkF s).l).length) rc1)] w16 (by kernel_rfl) ?_
                          refine J.ok (OK.ldBox S17 0 160 3 2 (.int .i64 ((((tkF s).l).getD (i - 1).toNat (⟨0, ByteArray.empty, 0, 0⟩ : Tk)).gPlace_Line)) (by kernel_rfl) rfl (by kernel_rfl)) ?_
                          refine J.run 2 K4_34 [(162, .pointer (some ⟨b3, 2, none⟩)), (160, .int .i64 ((((tkF s).l).getD (i - 1).toNat (⟨0, ByteArray.empty, 0, 0⟩ : Tk)).gPlace_Line)), (157, .bool (((((tkF s).l).getD (i - 1).toNat (⟨0, ByteArray.empty, 0, 0⟩ : Tk)).gKind) == 4)), (154, .bool false), (59, .int .i64 i), (58, .int .i64 (((tkF s).l).length : Int)), (57, .slice ra1 (((tkF s).l).length) rc1), (6, .slice (some ⟨b2, 0, none⟩) ((piecesB 10 s).length) ((piecesB 10 s).length)), (3, .slice ra1 (((tkF s).l).length) rc1)] w16 (by kernel_rfl) ?_
                          refine J.ok (OK.ldBox S17 1 163 3 2 (.int .i64 ((((tkF s).l).getD (i).toNat (⟨0, ByteArray.empty, 0, 0⟩ : Tk)).gPlace_Line)) (by kernel_rfl) rfl (by kernel_rfl)) ?_
                          refine J.run 4 K4_35 [(166, .bool (!((((((tkF s).l).getD (i - 1).toNat (⟨0, ByteArray.empty, 0, 0⟩ : Tk)).gKind) == 4) == (decide (((((tkF s).l).getD (i - 1).toNat (⟨0, ByteArray.empty, 0, 0⟩ : Tk)).gPlace_Line) < ((((tkF s).l).getD (i).toNat (⟨0, ByteArray.empty, 0, 0⟩ : Tk)).gPlace_Line)))))), (59, .int .i64 i), (58, .int .i64 (((tkF s).l).length : Int)), (57, .slice ra1 (((tkF s).l).length) rc1), (6, .slice (some ⟨b2, 0, none⟩) ((piecesB 10 s).length) ((piecesB 10 s).length)), (3, .slice ra1 (((tkF s).l).length) rc1)] w16 (by kernel_rfl) ?_
                          have fk16 : (!((((((tkF s).l).getD (i - 1).toNat (⟨0, ByteArray.empty, 0, 0⟩ : Tk)).gKind) == 4) == (decide (((((tkF s).l).getD (i - 1).toNat (⟨0, ByteArray.empty, 0, 0⟩ : Tk)).gPlace_Line) < ((((tkF s).l).getD (i).toNat (⟨0, ByteArray.empty, 0, 0⟩ : Tk)).gPlace_Line))))) = false := bool_lt q3
                          refine J.head (.bool false) (congrArg Value.bool fk16) ?_
                          refine J.run 5 K4_36 [(167, .int .i64 (IntKind.wrap .i64 (i + 1))), (58, .int .i64 (((tkF s).l).length : Int)), (57, .slice ra1 (((tkF s).l).length) rc1), (6, .slice (some ⟨b2, 0, none⟩) ((piecesB 10 s).length) ((piecesB 10 s).length)), (3, .slice ra1 (((tkF s).l).length) rc1)] w16 (by kernel_rfl) ?_
                          refine J.head (.int .i64 (i + 1)) (congrArg (Value.int .i64) (IntWalk.i64_in _ (by omega))) ?_
                          refine J.run 3 K4_8 [(59, .int .i64 (i + 1)), (58, .int .i64 (((tkF s).l).length : Int)), (57, .slice ra1 (((tkF s).l).length) rc1), (6, .slice (some ⟨b2, 0, none⟩) ((piecesB 10 s).length) ((piecesB 10 s).length)), (3, .slice ra1 (((tkF s).l).length) rc1)] w16 (by kernel_rfl) ?_
                          have S18 : Sep w [box b4 [.int .i64 ((((tkF s).l).getD (i - 1).toNat (⟨0, ByteArray.empty, 0, 0⟩ : Tk)).gKind), .string ((((tkF s).l).getD (i - 1).toNat (⟨0, ByteArray.empty, 0, 0⟩ : Tk)).gText), .int .i64 ((((tkF s).l).getD (i - 1).toNat (⟨0, ByteArray.empty, 0, 0⟩ : Tk)).gPlace_Line), .int .i64 ((((tkF s).l).getD (i - 1).toNat (⟨0, ByteArray.empty, 0, 0⟩ : Tk)).gPlace_Column)] 36, box b2 ((piecesB 10 s).map Value.string) 9, box b1 [.int .i64 ((tkF s).pl), .int .i64 ((tkF s).pc)] 25, rowOf tkE ra1 rc1 36 4 ((tkF s).l)] w16 := S17.erase 1
                          clear S17
                          have S19 : Sep w [box b2 ((piecesB 10 s).map Value.string) 9, box b1 [.int .i64 ((tkF s).pl), .int .i64 ((tkF s).pc)] 25, rowOf tkE ra1 rc1 36 4 ((tkF s).l)] w16 := S18.erase 0
                          clear S18
                          refine J.run 0 K4_8 [(59, .int .i64 (i + 1)), (58, .int .i64 (((tkF s).l).length : Int)), (57, .slice ra1 (((tkF s).l).length) rc1), (6, .slice (some ⟨b2, 0, none⟩) ((piecesB 10 s).length) ((piecesB 10 s).length)), (3, .slice ra1 (((tkF s).l).length) rc1)] w16 (by kernel_rfl) ?_
                          exact ih1 _ (show (((tkF s).l.length : Int) - (i + 1)).toNat < mm1 from by omega) (i + 1) w16 (by omega) (by omega) S19 rfl
                      · skip
                        refine J.head (.bool false) (congrArg Value.bool (beq_eq_false_iff_ne.2 fk13)) ?_
                        refine J.run 11 K4_37 [(155, .pointer (some ⟨b4, 0, none⟩)), (154, .bool false), (9, .pointer (some ⟨b4, 0, none⟩)), (8, .pointer (some ⟨b3, 0, none⟩)), (59, .int .i64 i), (58, .int .i64 (((tkF s).l).length : Int)), (57, .slice ra1 (((tkF s).l).length) rc1), (6, .slice (some ⟨b2, 0, none⟩) ((piecesB 10 s).length) ((piecesB 10 s).length)), (3, .slice ra1 (((tkF s).l).length) rc1)] w16 (by kernel_rfl) ?_
                        refine J.ok (OK.ldBox S17 0 156 3 0 (.int .i64 ((((tkF s).l).getD (i - 1).toNat (⟨0, ByteArray.empty, 0, 0⟩ : Tk)).gKind)) (by kernel_rfl) rfl (by kernel_rfl)) ?_
                        refine J.run 3 K4_38 [(159, .pointer (some ⟨b4, 2, none⟩)), (157, .bool (((((tkF s).l).getD (i - 1).toNat (⟨0, ByteArray.empty, 0, 0⟩ : Tk)).gKind) == 4)), (154, .bool false), (8, .pointer (some ⟨b3, 0, none⟩)), (59, .int .i64 i), (58, .int .i64 (((tkF s).l).length : Int)), (57, .slice ra1 (((tkF s).l).length) rc1), (6, .slice (some ⟨b2, 0, none⟩) ((piecesB 10 s).length) ((piecesB 10 s).length)), (3, .slice ra1 (((tkF s).l).length) rc1)] w16 (by kernel_rfl) ?_
                        refine J.ok (OK.ldBox S17 0 160 3 2 (.int .i64 ((((tkF s).l).getD (i - 1).toNat (⟨0, ByteArray.empty, 0, 0⟩ : Tk)).gPlace_Line)) (by kernel_rfl) rfl (by kernel_rfl)) ?_
                        refine J.run 2 K4_39 [(162, .pointer (some ⟨b3, 2, none⟩)), (160, .int .i64 ((((tkF s).l).getD (i - 1).toNat (⟨0, ByteArray.empty, 0, 0⟩ : Tk)).gPlace_Line)), (157, .bool (((((tkF s).l).getD (i - 1).toNat (⟨0, ByteArray.empty, 0, 0⟩ : Tk)).gKind) == 4)), (154, .bool false), (59, .int .i64 i), (58, .int .i64 (((tkF s).l).length : Int)), (57, .slice ra1 (((tkF s).l).length) rc1), (6, .slice (some ⟨b2, 0, none⟩) ((piecesB 10 s).length) ((piecesB 10 s).length)), (3, .slice ra1 (((tkF s).l).length) rc1)] w16 (by kernel_rfl) ?_
                        refine J.ok (OK.ldBox S17 1 163 3 2 (.int .i64 ((((tkF s).l).getD (i).toNat (⟨0, ByteArray.empty, 0, 0⟩ : Tk)).gPlace_Line)) (by kernel_rfl) rfl (by kernel_rfl)) ?_
                        refine J.run 4 K4_40 [(166, .bool (!((((((tkF s).l).getD (i - 1).toNat (⟨0, ByteArray.empty, 0, 0⟩ : Tk)).gKind) == 4) == (decide (((((tkF s).l).getD (i - 1).toNat (⟨0, ByteArray.empty, 0, 0⟩ : Tk)).gPlace_Line) < ((((tkF s).l).getD (i).toNat (⟨0, ByteArray.empty, 0, 0⟩ : Tk)).gPlace_Line)))))), (59, .int .i64 i), (58, .int .i64 (((tkF s).l).length : Int)), (57, .slice ra1 (((tkF s).l).length) rc1), (6, .slice (some ⟨b2, 0, none⟩) ((piecesB 10 s).length) ((piecesB 10 s).length)), (3, .slice ra1 (((tkF s).l).length) rc1)] w16 (by kernel_rfl) ?_
                        have fk18 : (!((((((tkF s).l).getD (i - 1).toNat (⟨0, ByteArray.empty, 0, 0⟩ : Tk)).gKind) == 4) == (decide (((((tkF s).l).getD (i - 1).toNat (⟨0, ByteArray.empty, 0, 0⟩ : Tk)).gPlace_Line) < ((((tkF s).l).getD (i).toNat (⟨0, ByteArray.empty, 0, 0⟩ : Tk)).gPlace_Line))))) = false := bool_lt q3
                        refine J.head (.bool false) (congrArg Value.bool fk18) ?_
                        refine J.run 5 K4_41 [(167, .int .i64 (IntKind.wrap .i64 (i + 1))), (58, .int .i64 (((tkF s).l).length : Int)), (57, .slice ra1 (((tkF s).l).length) rc1), (6, .slice (some ⟨b2, 0, none⟩) ((piecesB 10 s).length) ((piecesB 10 s).length)), (3, .slice ra1 (((tkF s).l).length) rc1)] w16 (by kernel_rfl) ?_
                        refine J.head (.int .i64 (i + 1)) (congrArg (Value.int .i64) (IntWalk.i64_in _ (by omega))) ?_
                        refine J.run 3 K4_8 [(59, .int .i64 (i + 1)), (58, .int .i64 (((tkF s).l).length : Int)), (57, .slice ra1 (((tkF s).l).length) rc1), (6, .slice (some ⟨b2, 0, none⟩) ((piecesB 10 s).length) ((piecesB 10 s).length)), (3, .slice ra1 (((tkF s).l).length) rc1)] w16 (by kernel_rfl) ?_
                        have S20 : Sep w [box b4 [.int .i64 ((((tkF s).l).getD (i - 1).toNat (⟨0, ByteArray.empty, 0, 0⟩ : Tk)).gKind), .string ((((tkF s).l).getD (i - 1).toNat (⟨0, ByteArray.empty, 0, 0⟩ : Tk)).gText), .int .i64 ((((tkF s).l).getD (i - 1).toNat (⟨0, ByteArray.empty, 0, 0⟩ : Tk)).gPlace_Line), .int .i64 ((((tkF s).l).getD (i - 1).toNat (⟨0, ByteArray.empty, 0, 0⟩ : Tk)).gPlace_Column)] 36, box b2 ((piecesB 10 s).map Value.string) 9, box b1 [.int .i64 ((tkF s).pl), .int .i64 ((tkF s).pc)] 25, rowOf tkE ra1 rc1 36 4 ((tkF s).l)] w16 := S17.erase 1
                        clear S17
                        have S21 : Sep w [box b2 ((piecesB 10 s).map Value.string) 9, box b1 [.int .i64 ((tkF s).pl), .int .i64 ((tkF s).pc)] 25, rowOf tkE ra1 rc1 36 4 ((tkF s).l)] w16 := S20.erase 0
                        clear S20
                        refine J.run 0 K4_8 [(59, .int .i64 (i + 1)), (58, .int .i64 (((tkF s).l).length : Int)), (57, .slice ra1 (((tkF s).l).length) rc1), (6, .slice (some ⟨b2, 0, none⟩) ((piecesB 10 s).length) ((piecesB 10 s).length)), (3, .slice ra1 (((tkF s).l).length) rc1)] w16 (by kernel_rfl) ?_
                        exact ih1 _ (show (((tkF s).l.length : Int) - (i + 1)).toNat < mm1 from by omega) (i + 1) w16 (by omega) (by omega) S21 rfl
        · skip
          refine J.head (.bool false) (congrArg Value.bool (decide_eq_false fk3)) ?_
          refine J.run 8 K4_42 [(171, .bool ((((tkF s).l).length : Int) == 0)), (3, .slice ra1 (((tkF s).l).length) rc1)] w6 (by kernel_rfl) ?_
          by_cases fk19 : (((tkF s).l).length : Int) = 0
          · skip
            refine J.head (.bool true) (congrArg Value.bool (beq_iff_eq.2 fk19)) ?_
            refine J.run 11 K4_43 [(2, .bool true)] w6 (by kernel_rfl) ?_
            refine J.ret Tryd.f4 [.bool true] Tryd.func4 ⟨by kernel_rfl, trivial⟩ ?_
            refine hR _ _ ?_
            exact ⟨rfl, S6.nil⟩
          · skip
            refine J.head (.bool false) (congrArg Value.bool (beq_eq_false_iff_ne.2 fk19)) ?_
            first | have hZ := last_at o3 fk19 | skip
            refine J.run 4 K4_44 [(175, .int .i64 (IntKind.wrap .i64 ((((tkF s).l).length : Int) - 1))), (172, .slice ra1 (((tkF s).l).length) rc1), (171, .bool false)] w6 (by kernel_rfl) ?_
            refine J.head (.int .i64 ((((tkF s).l).length : Int) - 1)) (congrArg (Value.int .i64) (IntWalk.i64_in _ (by omega))) ?_
            obtain ⟨p6, hp6, hc6⟩ := (rowOf_recs (S6.nth 2 rfl) _ rfl (fun _ => rfl) (by decide)).at (⟨0, ByteArray.empty, 0, 0⟩ : Tk) ((((tkF s).l).length : Int) - 1).toNat (by omega)
            refine J.ok (OK.index 176 23 4 ra1 p6 (((tkF s).l).length) ((((tkF s).l).length : Int) - 1).toNat ((((tkF s).l).length : Int) - 1) (p6.add (((((tkF s).l).length : Int) - 1).toNat * 4)) (by kernel_rfl) (by kernel_rfl) hp6 (by omega) (by omega) rfl) ?_
            refine J.run 1 K4_45 [(177, .pointer (some ((p6.add (((((tkF s).l).length : Int) - 1).toNat * 4)).add 0))), (171, .bool false)] w6 (by kernel_rfl) ?_
            refine J.ok (OK.ldCell 178 3 ((p6.add (((((tkF s).l).length : Int) - 1).toNat * 4)).add 0) (.int .i64 ((((tkF s).l).getD ((((tkF s).l).length : Int) - 1).toNat (⟨0, ByteArray.empty, 0, 0⟩ : Tk)).gKind)) (by kernel_rfl) (by kernel_rfl) (hc6 0 _ rfl)) ?_
            refine J.run 4 K4_46 [(2, .bool (((((tkF s).l).getD ((((tkF s).l).length : Int) - 1).toNat (⟨0, ByteArray.empty, 0, 0⟩ : Tk)).gKind) == 4))] w6 (by kernel_rfl) ?_
            refine J.ret Tryd.f4 [.bool (((((tkF s).l).getD ((((tkF s).l).length : Int) - 1).toNat (⟨0, ByteArray.empty, 0, 0⟩ : Tk)).gKind) == 4)] Tryd.func4 ⟨by kernel_rfl, trivial⟩ ?_
            refine hR _ _ ?_
            exact ⟨congrArg Value.bool ((beq_iff_eq.2 (by omega))), S6.nil⟩
      exact L4_1 _ 0 w5 (by omega) (by omega) S5 rfl
    · skip
      refine J.head (.bool true) (congrArg Value.bool (bne_iff_ne.2 fk2)) ?_
      obtain ⟨g1, g2, g3⟩ := hG.1 fk2
      have hl0 : (tkF s).l.length = 0 := by rw [g1]; rfl
      have hls := piece_size2 s g2
      have hlz := piece_size 10 s ((tkF s).pl - 1).toNat
      refine J.run 2 K4_47 [(6, .slice (some ⟨b2, 0, none⟩) ((piecesB 10 s).length) ((piecesB 10 s).length)), (3, .slice ra1 (((tkF s).l).length) rc1), (4, .pointer (some ⟨b1, 0, none⟩))] w5 (by kernel_rfl) ?_
      by_cases fk20 : (((tkF s).l).length : Int) = 0
      · skip
        by_cases fk21 : ((tkF s).pl) ≥ 1
        · skip
          by_cases fk22 : ((tkF s).pl) ≤ ((piecesB 10 s).length : Int)
          · skip
            by_cases fk23 : ((tkF s).pc) ≥ 1
            · skip
              obtain ⟨p7, hp7, hc7⟩ := (box_ones (S5.nth 0 rfl) ((piecesB 10 s).length) rfl).at ByteArray.empty (((tkF s).pl) - 1).toNat (by omega)
              refine J.drawStill S5 33 Tryd.mixed (by kernel_rfl) (by kernel_rfl) (by kernel_rfl) ?_
              intro w17 S22
              refine SL.ok (by decide) (OK.run 25 (.slice ra1 (((tkF s).l).length) rc1) (by kernel_rfl)) ?_
              refine SL.ok (by decide) (OK.run 26 (.int .i64 (((tkF s).l).length : Int)) (by kernel_rfl)) ?_
              refine SL.ok (by decide) (OK.run 27 (.bool ((((tkF s).l).length : Int) == 0)) (by kernel_rfl)) ?_
              refine SL.head (.bool true) (congrArg Value.bool (beq_iff_eq.2 fk20)) ?_
              refine SL.ok (by decide) (OK.run 28 (.bool true) (by kernel_rfl)) ?_
              refine SL.ok (by decide) (OK.run 29 (.pointer (some ⟨b1, 0, none⟩)) (by kernel_rfl)) ?_
              refine SL.ok (by decide) (OK.ldBox S22 1 30 3 0 (.int .i64 ((tkF s).pl)) (by kernel_rfl) rfl (by kernel_rfl)) ?_
              refine SL.ok (by decide) (OK.run 31 (.bool (decide (((tkF s).pl) ≥ 1))) (by kernel_rfl)) ?_
              refine SL.head (.bool true) (congrArg Value.bool (decide_eq_true fk21)) ?_
              refine SL.ok (by decide) (OK.run 32 (.bool true) (by kernel_rfl)) ?_
              refine SL.ok (by decide) (OK.run 33 (.bool true) (by kernel_rfl)) ?_
              refine SL.ok (by decide) (OK.run 34 (.pointer (some ⟨b1, 0, none⟩)) (by kernel_rfl)) ?_
              refine SL.ok (by decide) (OK.ldBox S22 1 35 3 0 (.int .i64 ((tkF s).pl)) (by kernel_rfl) rfl (by kernel_rfl)) ?_
              refine SL.ok (by decide) (OK.run 36 (.slice (some ⟨b2, 0, none⟩) ((piecesB 10 s).length) ((piecesB 10 s).length)) (by kernel_rfl)) ?_
              refine SL.ok (by decide) (OK.run 37 (.int .i64 ((piecesB 10 s).length : Int)) (by kernel_rfl)) ?_
              refine SL.ok (by decide) (OK.run 38 (.bool (decide (((tkF s).pl) ≤ ((piecesB 10 s).length : Int)))) (by kernel_rfl)) ?_
              refine SL.head (.bool true) (congrArg Value.bool (decide_eq_true fk22)) ?_
              refine SL.ok (by decide) (OK.run 39 (.bool true) (by kernel_rfl)) ?_
              refine SL.ok (by decide) (OK.run 40 (.bool true) (by kernel_rfl)) ?_
              refine SL.ok (by decide) (OK.run 41 (.pointer (some ⟨b1, 1, none⟩)) (by kernel_rfl)) ?_
              refine SL.ok (by decide) (OK.ldBox S22 1 42 3 1 (.int .i64 ((tkF s).pc)) (by kernel_rfl) rfl (by kernel_rfl)) ?_
              refine SL.ok (by decide) (OK.run 43 (.bool (decide (((tkF s).pc) ≥ 1))) (by kernel_rfl)) ?_
              refine SL.head (.bool true) (congrArg Value.bool (decide_eq_true fk23)) ?_
              refine SL.ok (by decide) (OK.run 44 (.bool true) (by kernel_rfl)) ?_
              refine SL.ok (by decide) (OK.run 45 (.bool true) (by kernel_rfl)) ?_
              refine SL.ok (by decide) (OK.run 46 (.pointer (some ⟨b1, 1, none⟩)) (by kernel_rfl)) ?_
              refine SL.ok (by decide) (OK.ldBox S22 1 47 3 1 (.int .i64 ((tkF s).pc)) (by kernel_rfl) rfl (by kernel_rfl)) ?_
              refine SL.ok (by decide) (OK.run 48 (.slice (some ⟨b2, 0, none⟩) ((piecesB 10 s).length) ((piecesB 10 s).length)) (by kernel_rfl)) ?_
              refine SL.ok (by decide) (OK.run 49 (.pointer (some ⟨b1, 0, none⟩)) (by kernel_rfl)) ?_
              refine SL.ok (by decide) (OK.ldBox S22 1 50 3 0 (.int .i64 ((tkF s).pl)) (by kernel_rfl) rfl (by kernel_rfl)) ?_
              refine SL.ok (by decide) (OK.run 51 (.int .i64 (IntKind.wrap .i64 (((tkF s).pl) - 1))) (by kernel_rfl)) ?_
              refine SL.head (.int .i64 (((tkF s).pl) - 1)) (congrArg (Value.int .i64) (IntWalk.i64_in _ (by omega))) ?_
              obtain ⟨p8, hp8, hc8⟩ := (box_ones (S22.nth 0 rfl) ((piecesB 10 s).length) rfl).at ByteArray.empty (((tkF s).pl) - 1).toNat (by omega)
              refine SL.ok (by decide) (OK.index 52 33 1 (some ⟨b2, 0, none⟩) p8 ((piecesB 10 s).length) (((tkF s).pl) - 1).toNat (((tkF s).pl) - 1) (p8.add (((tkF s).pl) - 1).toNat) (by kernel_rfl) (by kernel_rfl) hp8 (by omega) (by omega) (by rw [Nat.mul_one])) ?_
              refine SL.ok (by decide) (OK.ldCell 53 9 (p8.add (((tkF s).pl) - 1).toNat) (.string ((piecesB 10 s).getD (((tkF s).pl) - 1).toNat ByteArray.empty)) (by kernel_rfl) (by kernel_rfl) hc8) ?_
              refine SL.ok (by decide) (OK.run 54 (.int .i64 (((piecesB 10 s).getD (((tkF s).pl) - 1).toNat ByteArray.empty).size : Int)) (by kernel_rfl)) ?_
              refine SL.ok (by decide) (OK.run 55 (.bool (decide (((tkF s).pc) ≤ (((piecesB 10 s).getD (((tkF s).pl) - 1).toNat ByteArray.empty).size : Int)))) (by kernel_rfl)) ?_
              refine SL.ok (by decide) (OK.run 56 (.bool (decide (((tkF s).pc) ≤ (((piecesB 10 s).getD (((tkF s).pl) - 1).toNat ByteArray.empty).size : Int)))) (by kernel_rfl)) ?_
              refine SL.ok (by decide) (OK.run 2 (.bool (decide (((tkF s).pc) ≤ (((piecesB 10 s).getD (((tkF s).pl) - 1).toNat ByteArray.empty).size : Int)))) (by kernel_rfl)) ?_
              refine SL.done ?_
              refine TL.done (by kernel_rfl) ?_
              refine J.run 0 (rRest K4_47) [(2, .bool (decide (((tkF s).pc) ≤ (((piecesB 10 s).getD (((tkF s).pl) - 1).toNat ByteArray.empty).size : Int))))] w17 (by kernel_rfl) ?_
              refine J.ret Tryd.f4 [.bool (decide (((tkF s).pc) ≤ (((piecesB 10 s).getD (((tkF s).pl) - 1).toNat ByteArray.empty).size : Int)))] Tryd.func4 ⟨by kernel_rfl, trivial⟩ ?_
              refine hR _ _ ?_
              exact ⟨congrArg Value.bool ((decide_eq_true (by omega))), S22.nil⟩
            · skip
              refine J.drawStill S5 33 Tryd.mixed (by kernel_rfl) (by kernel_rfl) (by kernel_rfl) ?_
              intro w18 S23
              refine SL.ok (by decide) (OK.run 25 (.slice ra1 (((tkF s).l).length) rc1) (by kernel_rfl)) ?_
              refine SL.ok (by decide) (OK.run 26 (.int .i64 (((tkF s).l).length : Int)) (by kernel_rfl)) ?_
              refine SL.ok (by decide) (OK.run 27 (.bool ((((tkF s).l).length : Int) == 0)) (by kernel_rfl)) ?_
              refine SL.head (.bool true) (congrArg Value.bool (beq_iff_eq.2 fk20)) ?_
              refine SL.ok (by decide) (OK.run 28 (.bool true) (by kernel_rfl)) ?_
              refine SL.ok (by decide) (OK.run 29 (.pointer (some ⟨b1, 0, none⟩)) (by kernel_rfl)) ?_
              refine SL.ok (by decide) (OK.ldBox S23 1 30 3 0 (.int .i64 ((tkF s).pl)) (by kernel_rfl) rfl (by kernel_rfl)) ?_
              refine SL.ok (by decide) (OK.run 31 (.bool (decide (((tkF s).pl) ≥ 1))) (by kernel_rfl)) ?_
              refine SL.head (.bool true) (congrArg Value.bool (decide_eq_true fk21)) ?_
              refine SL.ok (by decide) (OK.run 32 (.bool true) (by kernel_rfl)) ?_
              refine SL.ok (by decide) (OK.run 33 (.bool true) (by kernel_rfl)) ?_
              refine SL.ok (by decide) (OK.run 34 (.pointer (some ⟨b1, 0, none⟩)) (by kernel_rfl)) ?_
              refine SL.ok (by decide) (OK.ldBox S23 1 35 3 0 (.int .i64 ((tkF s).pl)) (by kernel_rfl) rfl (by kernel_rfl)) ?_
              refine SL.ok (by decide) (OK.run 36 (.slice (some ⟨b2, 0, none⟩) ((piecesB 10 s).length) ((piecesB 10 s).length)) (by kernel_rfl)) ?_
              refine SL.ok (by decide) (OK.run 37 (.int .i64 ((piecesB 10 s).length : Int)) (by kernel_rfl)) ?_
              refine SL.ok (by decide) (OK.run 38 (.bool (decide (((tkF s).pl) ≤ ((piecesB 10 s).length : Int)))) (by kernel_rfl)) ?_
              refine SL.head (.bool true) (congrArg Value.bool (decide_eq_true fk22)) ?_
              refine SL.ok (by decide) (OK.run 39 (.bool true) (by kernel_rfl)) ?_
              refine SL.ok (by decide) (OK.run 40 (.bool true) (by kernel_rfl)) ?_
              refine SL.ok (by decide) (OK.run 41 (.pointer (some ⟨b1, 1, none⟩)) (by kernel_rfl)) ?_
              refine SL.ok (by decide) (OK.ldBox S23 1 42 3 1 (.int .i64 ((tkF s).pc)) (by kernel_rfl) rfl (by kernel_rfl)) ?_
              refine SL.ok (by decide) (OK.run 43 (.bool (decide (((tkF s).pc) ≥ 1))) (by kernel_rfl)) ?_
              refine SL.head (.bool false) (congrArg Value.bool (decide_eq_false fk23)) ?_
              refine SL.ok (by decide) (OK.run 44 (.bool false) (by kernel_rfl)) ?_
              refine SL.ok (by decide) (OK.run 45 (.bool false) (by kernel_rfl)) ?_
              refine SL.pass (d := some 46) (by decide) (by kernel_rfl) ?_
              refine SL.pass (d := some 47) (by decide) (by kernel_rfl) ?_
              refine SL.pass (d := some 48) (by decide) (by kernel_rfl) ?_
              refine SL.pass (d := some 49) (by decide) (by kernel_rfl) ?_
              refine SL.pass (d := some 50) (by decide) (by kernel_rfl) ?_
              refine SL.pass (d := some 51) (by decide) (by kernel_rfl) ?_
              refine SL.pass (d := some 52) (by decide) (by kernel_rfl) ?_
              refine SL.pass (d := some 53) (by decide) (by kernel_rfl) ?_
              refine SL.pass (d := some 54) (by decide) (by kernel_rfl) ?_
              refine SL.pass (d := some 55) (by decide) (by kernel_rfl) ?_
              refine SL.ok (by decide) (OK.run 56 (.bool false) (by kernel_rfl)) ?_
              refine SL.ok (by decide) (OK.run 2 (.bool false) (by kernel_rfl)) ?_
              refine SL.done ?_
              refine TL.done (by kernel_rfl) ?_
              refine J.run 0 (rRest K4_47) [(2, .bool false)] w18 (by kernel_rfl) ?_
              refine J.ret Tryd.f4 [.bool false] Tryd.func4 ⟨by kernel_rfl, trivial⟩ ?_
              refine hR _ _ ?_
              exfalso
              omega
          · skip
            refine J.drawStill S5 33 Tryd.mixed (by kernel_rfl) (by kernel_rfl) (by kernel_rfl) ?_
            intro w19 S24
            refine SL.ok (by decide) (OK.run 25 (.slice ra1 (((tkF s).l).length) rc1) (by kernel_rfl)) ?_
            refine SL.ok (by decide) (OK.run 26 (.int .i64 (((tkF s).l).length : Int)) (by kernel_rfl)) ?_
            refine SL.ok (by decide) (OK.run 27 (.bool ((((tkF s).l).length : Int) == 0)) (by kernel_rfl)) ?_
            refine SL.head (.bool true) (congrArg Value.bool (beq_iff_eq.2 fk20)) ?_
            refine SL.ok (by decide) (OK.run 28 (.bool true) (by kernel_rfl)) ?_
            refine SL.ok (by decide) (OK.run 29 (.pointer (some ⟨b1, 0, none⟩)) (by kernel_rfl)) ?_
            refine SL.ok (by decide) (OK.ldBox S24 1 30 3 0 (.int .i64 ((tkF s).pl)) (by kernel_rfl) rfl (by kernel_rfl)) ?_
            refine SL.ok (by decide) (OK.run 31 (.bool (decide (((tkF s).pl) ≥ 1))) (by kernel_rfl)) ?_
            refine SL.head (.bool true) (congrArg Value.bool (decide_eq_true fk21)) ?_
            refine SL.ok (by decide) (OK.run 32 (.bool true) (by kernel_rfl)) ?_
            refine SL.ok (by decide) (OK.run 33 (.bool true) (by kernel_rfl)) ?_
            refine SL.ok (by decide) (OK.run 34 (.pointer (some ⟨b1, 0, none⟩)) (by kernel_rfl)) ?_
            refine SL.ok (by decide) (OK.ldBox S24 1 35 3 0 (.int .i64 ((tkF s).pl)) (by kernel_rfl) rfl (by kernel_rfl)) ?_
            refine SL.ok (by decide) (OK.run 36 (.slice (some ⟨b2, 0, none⟩) ((piecesB 10 s).length) ((piecesB 10 s).length)) (by kernel_rfl)) ?_
            refine SL.ok (by decide) (OK.run 37 (.int .i64 ((piecesB 10 s).length : Int)) (by kernel_rfl)) ?_
            refine SL.ok (by decide) (OK.run 38 (.bool (decide (((tkF s).pl) ≤ ((piecesB 10 s).length : Int)))) (by kernel_rfl)) ?_
            refine SL.head (.bool false) (congrArg Value.bool (decide_eq_false fk22)) ?_
            refine SL.ok (by decide) (OK.run 39 (.bool false) (by kernel_rfl)) ?_
            refine SL.ok (by decide) (OK.run 40 (.bool false) (by kernel_rfl)) ?_
            refine SL.pass (d := some 41) (by decide) (by kernel_rfl) ?_
            refine SL.pass (d := some 42) (by decide) (by kernel_rfl) ?_
            refine SL.pass (d := some 43) (by decide) (by kernel_rfl) ?_
            refine SL.ok (by decide) (OK.run 44 (.bool false) (by kernel_rfl)) ?_
            refine SL.ok (by decide) (OK.run 45 (.bool false) (by kernel_rfl)) ?_
            refine SL.pass (d := some 46) (by decide) (by kernel_rfl) ?_
            refine SL.pass (d := some 47) (by decide) (by kernel_rfl) ?_
            refine SL.pass (d := some 48) (by decide) (by kernel_rfl) ?_
            refine SL.pass (d := some 49) (by decide) (by kernel_rfl) ?_
            refine SL.pass (d := some 50) (by decide) (by kernel_rfl) ?_
            refine SL.pass (d := some 51) (by decide) (by kernel_rfl) ?_
            refine SL.pass (d := some 52) (by decide) (by kernel_rfl) ?_
            refine SL.pass (d := some 53) (by decide) (by kernel_rfl) ?_
            refine SL.pass (d := some 54) (by decide) (by kernel_rfl) ?_
            refine SL.pass (d := some 55) (by decide) (by kernel_rfl) ?_
            refine SL.ok (by decide) (OK.run 56 (.bool false) (by kernel_rfl)) ?_
            refine SL.ok (by decide) (OK.run 2 (.bool false) (by kernel_rfl)) ?_
            refine SL.done ?_
            refine TL.done (by kernel_rfl) ?_
            refine J.run 0 (rRest K4_47) [(2, .bool false)] w19 (by kernel_rfl) ?_
            refine J.ret Tryd.f4 [.bool false] Tryd.func4 ⟨by kernel_rfl, trivial⟩ ?_
            refine hR _ _ ?_
            exfalso
            omega
        · skip
          refine J.drawStill S5 33 Tryd.mixed (by kernel_rfl) (by kernel_rfl) (by kernel_rfl) ?_
          intro w20 S25
          refine SL.ok (by decide) (OK.run 25 (.slice ra1 (((tkF s).l).length) rc1) (by kernel_rfl)) ?_
          refine SL.ok (by decide) (OK.run 26 (.int .i64 (((tkF s).l).length : Int)) (by kernel_rfl)) ?_
          refine SL.ok (by decide) (OK.run 27 (.bool ((((tkF s).l).length : Int) == 0)) (by kernel_rfl)) ?_
          refine SL.head (.bool true) (congrArg Value.bool (beq_iff_eq.2 fk20)) ?_
          refine SL.ok (by decide) (OK.run 28 (.bool true) (by kernel_rfl)) ?_
          refine SL.ok (by decide) (OK.run 29 (.pointer (some ⟨b1, 0, none⟩)) (by kernel_rfl)) ?_
          refine SL.ok (by decide) (OK.ldBox S25 1 30 3 0 (.int .i64 ((tkF s).pl)) (by kernel_rfl) rfl (by kernel_rfl)) ?_
          refine SL.ok (by decide) (OK.run 31 (.bool (decide (((tkF s).pl) ≥ 1))) (by kernel_rfl)) ?_
          refine SL.head (.bool false) (congrArg Value.bool (decide_eq_false fk21)) ?_
          refine SL.ok (by decide) (OK.run 32 (.bool false) (by kernel_rfl)) ?_
          refine SL.ok (by decide) (OK.run 33 (.bool false) (by kernel_rfl)) ?_
          refine SL.pass (d := some 34) (by decide) (by kernel_rfl) ?_
          refine SL.pass (d := some 35) (by decide) (by kernel_rfl) ?_
          refine SL.pass (d := some 36) (by decide) (by kernel_rfl) ?_
          refine SL.pass (d := some 37) (by decide) (by kernel_rfl) ?_
          refine SL.pass (d := some 38) (by decide) (by kernel_rfl) ?_
          refine SL.ok (by decide) (OK.run 39 (.bool false) (by kernel_rfl)) ?_
          refine SL.ok (by decide) (OK.run 40 (.bool false) (by kernel_rfl)) ?_
          refine SL.pass (d := some 41) (by decide) (by kernel_rfl) ?_
          refine SL.pass (d := some 42) (by decide) (by kernel_rfl) ?_
          refine SL.pass (d := some 43) (by decide) (by kernel_rfl) ?_
          refine SL.ok (by decide) (OK.run 44 (.bool false) (by kernel_rfl)) ?_
          refine SL.ok (by decide) (OK.run 45 (.bool false) (by kernel_rfl)) ?_
          refine SL.pass (d := some 46) (by decide) (by kernel_rfl) ?_
          refine SL.pass (d := some 47) (by decide) (by kernel_rfl) ?_
          refine SL.pass (d := some 48) (by decide) (by kernel_rfl) ?_
          refine SL.pass (d := some 49) (by decide) (by kernel_rfl) ?_
          refine SL.pass (d := some 50) (by decide) (by kernel_rfl) ?_
          refine SL.pass (d := some 51) (by decide) (by kernel_rfl) ?_
          refine SL.pass (d := some 52) (by decide) (by kernel_rfl) ?_
          refine SL.pass (d := some 53) (by decide) (by kernel_rfl) ?_
          refine SL.pass (d := some 54) (by decide) (by kernel_rfl) ?_
          refine SL.pass (d := some 55) (by decide) (by kernel_rfl) ?_
          refine SL.ok (by decide) (OK.run 56 (.bool false) (by kernel_rfl)) ?_
          refine SL.ok (by decide) (OK.run 2 (.bool false) (by kernel_rfl)) ?_
          refine SL.done ?_
          refine TL.done (by kernel_rfl) ?_
          refine J.run 0 (rRest K4_47) [(2, .bool false)] w20 (by kernel_rfl) ?_
          refine J.ret Tryd.f4 [.bool false] Tryd.func4 ⟨by kernel_rfl, trivial⟩ ?_
          refine hR _ _ ?_
          exfalso
          omega
      · skip
        first | have hZ := last_at o3 fk20 | skip
        refine J.drawStill S5 33 Tryd.mixed (by kernel_rfl) (by kernel_rfl) (by kernel_rfl) ?_
        intro w21 S26
        refine SL.ok (by decide) (OK.run 25 (.slice ra1 (((tkF s).l).length) rc1) (by kernel_rfl)) ?_
        refine SL.ok (by decide) (OK.run 26 (.int .i64 (((tkF s).l).length : Int)) (by kernel_rfl)) ?_
        refine SL.ok (by decide) (OK.run 27 (.bool ((((tkF s).l).length : Int) == 0)) (by kernel_rfl)) ?_
        refine SL.head (.bool false) (congrArg Value.bool (beq_eq_false_iff_ne.2 fk20)) ?_
        refine SL.ok (by decide) (OK.run 28 (.bool false) (by kernel_rfl)) ?_
        refine SL.pass (d := some 29) (by decide) (by kernel_rfl) ?_
        refine SL.pass (d := some 30) (by decide) (by kernel_rfl) ?_
        refine SL.pass (d := some 31) (by decide) (by kernel_rfl) ?_
        refine SL.ok (by decide) (OK.run 32 (.bool false) (by kernel_rfl)) ?_
        refine SL.ok (by decide) (OK.run 33 (.bool false) (by kernel_rfl)) ?_
        refine SL.pass (d := some 34) (by decide) (by kernel_rfl) ?_
        refine SL.pass (d := some 35) (by decide) (by kernel_rfl) ?_
        refine SL.pass (d := some 36) (by decide) (by kernel_rfl) ?_
        refine SL.pass (d := some 37) (by decide) (by kernel_rfl) ?_
        refine SL.pass (d := some 38) (by decide) (by kernel_rfl) ?_
        refine SL.ok (by decide) (OK.run 39 (.bool false) (by kernel_rfl)) ?_
        refine SL.ok (by decide) (OK.run 40 (.bool false) (by kernel_rfl)) ?_
        refine SL.pass (d := some 41) (by decide) (by kernel_rfl) ?_
        refine SL.pass (d := some 42) (by decide) (by kernel_rfl) ?_
        refine SL.pass (d := some 43) (by decide) (by kernel_rfl) ?_
        refine SL.ok (by decide) (OK.run 44 (.bool false) (by kernel_rfl)) ?_
        refine SL.ok (by decide) (OK.run 45 (.bool false) (by kernel_rfl)) ?_
        refine SL.pass (d := some 46) (by decide) (by kernel_rfl) ?_
        refine SL.pass (d := some 47) (by decide) (by kernel_rfl) ?_
        refine SL.pass (d := some 48) (by decide) (by kernel_rfl) ?_
        refine SL.pass (d := some 49) (by decide) (by kernel_rfl) ?_
        refine SL.pass (d := some 50) (by decide) (by kernel_rfl) ?_
        refine SL.pass (d := some 51) (by decide) (by kernel_rfl) ?_
        refine SL.pass (d := some 52) (by decide) (by kernel_rfl) ?_
        refine SL.pass (d := some 53) (by decide) (by kernel_rfl) ?_
        refine SL.pass (d := some 54) (by decide) (by kernel_rfl) ?_
        refine SL.pass (d := some 55) (by decide) (by kernel_rfl) ?_
        refine SL.ok (by decide) (OK.run 56 (.bool false) (by kernel_rfl)) ?_
        refine SL.ok (by decide) (OK.run 2 (.bool false) (by kernel_rfl)) ?_
        refine SL.done ?_
        refine TL.done (by kernel_rfl) ?_
        refine J.run 0 (rRest K4_47) [(2, .bool false)] w21 (by kernel_rfl) ?_
        refine J.ret Tryd.f4 [.bool false] Tryd.func4 ⟨by kernel_rfl, trivial⟩ ?_
        refine hR _ _ ?_
        exfalso
        omega

end Go.Proofs.YtlklealllohmgaaDoor
