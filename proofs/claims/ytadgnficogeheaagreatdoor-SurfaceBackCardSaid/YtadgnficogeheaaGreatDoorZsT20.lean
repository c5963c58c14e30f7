/- Walks of functions of this seat, printed by a program over the engine. Conditions: as each theorem says. -/
import Derived.Test.YtadgnficogeheaaGreatDoorZsT19
import Derived.Test.YtadgnficogeheaaGreatDoorZsEng16
namespace Go.Proofs.YtadgnficogeheaaGreatDoor
open Go.Eng Go.RowKit
set_option linter.unusedSimpArgs false
set_option linter.unusedVariables false
/-! reading a map -/
def tlR (out : List Rw) : List Eng.Claim := out.reverse.map fun x => rowOf Eng.encI x.gS_a x.gS_c 3 1 x.gS_l
theorem tlR_snoc (out : List Rw) (x : Rw) : tlR (out ++ [x]) = rowOf Eng.encI x.gS_a x.gS_c 3 1 x.gS_l :: tlR out := by
  unfold tlR; rw [List.reverse_append]; rfl
abbrev i64B (y : Int) : Prop := -9223372036854775808 ≤ y ∧ y ≤ 9223372036854775807
def okR (x : Rw) : Prop := x.gS_n = x.gS_l.length ∧ ∀ y ∈ x.gS_l, i64B y
theorem tlR_q {w0 w : World} {L : List Eng.Claim} {out : List Rw} (S : Sep w0 L w) (hs : ∀ c ∈ tlR out, c ∈ L) (h : ∀ x ∈ out, okR x) : ∀ x ∈ out, rwQ w x := by
  intro x hx
  obtain ⟨h1, h2⟩ := h x hx
  have hc := S.all (rowOf Eng.encI x.gS_a x.gS_c 3 1 x.gS_l) (hs _ (List.mem_map.2 ⟨_, List.mem_reverse.2 hx, rfl⟩))
  exact ⟨⟨by rw [h1]; exact (rowOf_cells hc).2.2, rowOf_cap hc⟩, row1_ones hc _ h1.symm, h2, trivial⟩
theorem numP_bd (p : ByteArray) : i64B (numP p) := by
  unfold numP; split
  · have := par_bounds p; omega
  · exact ⟨by decide, by decide⟩
theorem nuV_bd (wd s : ByteArray) : ∀ y ∈ nuV wd s, i64B y := fun y hy => by
  unfold nuV at hy; split at hy
  · unfold lnV at hy; obtain ⟨p, _, rfl⟩ := List.mem_map.1 hy; exact numP_bd p
  · cases hy
theorem nuV_len (wd s : ByteArray) (h : s.size ≤ 1000000) : (nuV wd s).length ≤ 1000001 := by
  unfold nuV; split
  · unfold lnV; rw [List.length_map, List.length_drop]
    have h1 := splitOn_bound 32 (ls s); have h2 := pieces_len 32 s; have h3 := ls_length s; omega
  · exact Nat.zero_le _
theorem nuV_ok {wd s : ByteArray} (h : lnOK wd (piecesB 32 s) = true) : nuV wd s = PV s := by unfold nuV; rw [if_pos h]
theorem body_size (s : ByteArray) : (bodyB s).size ≤ s.size := by
  unfold bodyB; split
  · have := ls_length s; show ((ls s).dropLast.toArray).size ≤ _; rw [List.size_toArray, List.length_dropLast]; omega
  · exact Nat.le_refl _
section
variable {L : List ByteArray} {i : Int} {x : ByteArray}
def okQ (L : List ByteArray) (i : Nat) : Prop := ∀ j, j < i → PO (wdA j) (L.getD j ByteArray.empty) = true
theorem okQ_zero (L : List ByteArray) : okQ L 0 := fun j hj => absurd hj (Nat.not_lt_zero _)
theorem okQ_step (h : okQ L i.toNat) (h0 : 0 ≤ i) (hx : x = L.getD i.toNat ByteArray.empty) {wd : ByteArray} (hw : wdA i.toNat = wd) (hk : lnOK wd (piecesB 32 x) = true) : okQ L (i + 1).toNat := fun j hj => by
  by_cases e : j = i.toNat
  · rw [e, hw, ← hx]; exact hk
  · exact h j (by omega)
theorem ok_bad (hi : i < (L.length : Int)) (h0 : 0 ≤ i) (hx : x = L.getD i.toNat ByteArray.empty) {wd : ByteArray} (hw : wdA i.toNat = wd) (hk : lnOK wd (piecesB 32 x) = false) : allOK L = false := by
  unfold allOK; rw [List.all_eq_false]
  exact ⟨i.toNat, List.mem_range.2 (by omega), by rw [hw, ← hx]; rw [show PO wd x = false from hk]; decide⟩
theorem ok_all (h : okQ L i.toNat) (hi : (L.length : Int) ≤ i) : allOK L = true := by
  unfold allOK; rw [List.all_eq_true]; intro j hj; rw [List.mem_range] at hj; exact h j (by omega)
theorem wdA0 (h : i = 0) : wdA i.toNat = (⟨#[120]⟩ : ByteArray) := by subst h; rfl
theorem wdA1 (h : i = 1) : wdA i.toNat = (⟨#[121]⟩ : ByteArray) := by subst h; rfl
theorem wdA2 (h : 2 ≤ i) : wdA i.toNat = (⟨#[122]⟩ : ByteArray) := by unfold wdA; rw [if_neg (by omega), if_neg (by omega)]; rfl
def stQ (L : List ByteArray) (i : Int) (lx ly : List Int) (lz : List Rw) : Prop :=
  (0 < i → lx = PV (L.getD 0 ByteArray.empty)) ∧ (1 < i → ly = PV (L.getD 1 ByteArray.empty)) ∧ lz.map (fun r => r.gS_l) = ((L.take i.toNat).drop 2).map PV
variable {lx ly : List Int} {lz : List Rw}
theorem st_start (L : List ByteArray) : stQ L 0 [] [] [] := ⟨fun h => absurd h (by decide), fun h => absurd h (by decide), by simp⟩
theorem st_x (h : stQ L i lx ly lz) (hi : i < (L.length : Int)) (e : i = 0) (hx : x = L.getD i.toNat ByteArray.empty) {v : List Int} (hv : v = PV x) : stQ L (i + 1) v ly lz := by
  subst e
  refine ⟨fun _ => by rw [hv, hx]; rfl, fun h => absurd h (by decide), ?_⟩
  rw [h.2.2]
  rw [List.drop_eq_nil_of_le (by rw [List.length_take]; show min 0 _ ≤ 2; omega), List.drop_eq_nil_of_le (by rw [List.length_take]; show min 1 _ ≤ 2; omega)]
theorem st_y (h : stQ L i lx ly lz) (hi : i < (L.length : Int)) (e : i = 1) (hx : x = L.getD i.toNat ByteArray.empty) {v : List Int} (hv : v = PV x) : stQ L (i + 1) lx v lz := by
  subst e
  refine ⟨fun _ => h.1 (by decide), fun _ => by rw [hv, hx]; rfl, ?_⟩
  rw [h.2.2]
  rw [List.drop_eq_nil_of_le (by rw [List.length_take]; show min 1 _ ≤ 2; omega), List.drop_eq_nil_of_le (by rw [List.length_take]; show min 2 _ ≤ 2; omega)]
theorem st_z (h : stQ L i lx ly lz) (hi : i < (L.length : Int)) (e : 2 ≤ i) (hx : x = L.getD i.toNat ByteArray.empty) {r : Rw} (hv : r.gS_l = PV x) : stQ L (i + 1) lx ly (lz ++ [r]) := by
  refine ⟨fun _ => h.1 (by omega), fun _ => h.2.1 (by omega), ?_⟩
  rw [List.map_append, h.2.2, show (i + 1).toNat = i.toNat + 1 by omega, List.take_succ_eq_append_getElem (by omega), List.drop_append_of_le_length (by rw [List.length_take]; omega), List.map_append]
  congr 1
  show [r.gS_l] = [PV _]
  rw [hv, hx, List.getD_eq_getElem?_getD, List.getElem?_eq_getElem (by omega)]; rfl
end
def okM (m : Mp) : Prop := (∀ y ∈ m.gX_l, i64B y) ∧ (∀ y ∈ m.gY_l, i64B y) ∧ ∀ r ∈ m.gZ_l, okR r
theorem len_ok {m : Mp} (h1 : m.gX_n = m.gX_l.length) (h2 : m.gY_n = m.gY_l.length) (h3 : m.gZ_n = m.gZ_l.length) (h : okM m) : lenM m := ⟨h1, h2, h3, fun r hr => (h.2.2 r hr).1⟩
/-- what the reading of a map answers -/
def P6Post (s : ByteArray) (w : World) (v : Value) (w' : World) : Prop := ∃ m : Mp, lenM m ∧ okM m ∧ (prE s = 0 → mvM m = mvB (lnsB s)) ∧ v = .tuple #[.agg #[.slice m.gX_a m.gX_n m.gX_c, .slice m.gY_a m.gY_n m.gY_c, .slice m.gZ_a m.gZ_n m.gZ_c], iv (prE s)] ∧ Sep w (rowOf Eng.encI m.gX_a m.gX_c 3 1 m.gX_l :: rowOf Eng.encI m.gY_a m.gY_c 3 1 m.gY_l :: rowOf rwE m.gZ_a m.gZ_c 22 1 m.gZ_l :: tlR m.gZ_l) w'
theorem bad6 {s : ByteArray} {w w' : World} {L : List Eng.Claim} {e : Int} (h : prE s = e) (he : e ≠ 0) (S : Sep w L w') : P6Post s w (.tuple #[.agg #[.slice none 0 0, .slice none 0 0, .slice none 0 0], iv e]) w' :=
  ⟨⟨none, 0, 0, [], none, 0, 0, [], none, 0, 0, []⟩, ⟨rfl, rfl, rfl, (fun r hr => by cases hr)⟩, ⟨(fun y hy => by cases hy), (fun y hy => by cases hy), (fun y hy => by cases hy)⟩, (fun h2 => absurd (h.symm.trans h2) he), by rw [h], ((S.nil.nilRow 22 1).nilRow 3 1).nilRow 3 1⟩
section
variable {s : ByteArray}
theorem pr5 (h : 16384 < s.size) : prE s = 5 := by unfold prE; rw [if_pos h]
theorem pr3 (h : ¬ 16384 < s.size) (h2 : sfxB s = false ∨ (lnsB s).length < 3) : prE s = 3 := by unfold prE; rw [if_neg h, if_pos h2]
theorem pr3b (h : ¬ 16384 < s.size) (h2 : allOK (lnsB s) = false) (h3 : sfxB s = true) (h4 : ¬ (lnsB s).length < 3) : prE s = 3 := by unfold prE; rw [if_neg h, if_neg (fun e => by rcases e with e | e; rw [h3] at e; cases e; exact h4 e), if_neg (by rw [h2]; decide)]
theorem pr1 (h : ¬ 16384 < s.size) (h3 : sfxB s = true) (h4 : ¬ (lnsB s).length < 3) (h2 : allOK (lnsB s) = true) (h5 : vOK (mvB (lnsB s)) = false) : prE s = 1 := by unfold prE; rw [if_neg h, if_neg (fun e => by rcases e with e | e; rw [h3] at e; cases e; exact h4 e), if_pos h2, if_neg (by rw [h5]; decide)]
theorem pr0 (h : ¬ 16384 < s.size) (h3 : sfxB s = true) (h4 : ¬ (lnsB s).length < 3) (h2 : allOK (lnsB s) = true) (h5 : vOK (mvB (lnsB s)) = true) : prE s = 0 := by unfold prE; rw [if_neg h, if_neg (fun e => by rcases e with e | e; rw [h3] at e; cases e; exact h4 e), if_pos h2, if_pos h5]
theorem mv_end {L : List ByteArray} {i : Int} {m : Mp} (h : stQ L i m.gX_l m.gY_l m.gZ_l) (hi : (L.length : Int) ≤ i) (h3 : 3 ≤ L.length) : mvM m = mvB L := by
  obtain ⟨a, b, c⟩ := h
  unfold mvM mvB; rw [a (by omega), b (by omega), c, List.take_of_length_le (by omega)]
end

end Go.Proofs.YtadgnficogeheaaGreatDoor

