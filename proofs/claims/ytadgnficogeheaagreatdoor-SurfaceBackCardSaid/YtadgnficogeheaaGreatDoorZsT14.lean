/- Walks of functions of this seat, printed by a program over the engine. Conditions: as each theorem says. -/
import Derived.Test.YtadgnficogeheaaGreatDoorZsT13
namespace Go.Proofs.YtadgnficogeheaaGreatDoor
open Go.Eng Go.RowKit
set_option linter.unusedSimpArgs false
set_option linter.unusedVariables false
theorem setG_at {α : Type} {l : List α} {d v : α} {i : Nat} (h : i < l.length) : (l.set i v).getD i d = v := by rw [List.getD_eq_getElem?_getD, List.getElem?_set_self h]; rfl
theorem setG_ne {α : Type} {l : List α} {d v : α} {i j : Nat} (h : i ≠ j) : (l.set i v).getD j d = l.getD j d := by rw [List.getD_eq_getElem?_getD, List.getElem?_set_ne h, List.getD_eq_getElem?_getD]
theorem extG {α : Type} (d : α) {l m : List α} (h : l.length = m.length) (h2 : ∀ k, k < l.length → l.getD k d = m.getD k d) : l = m := by
  apply List.ext_getElem h
  intro k h3 h4
  have := h2 k h3
  rw [List.getD_eq_getElem?_getD, List.getD_eq_getElem?_getD, List.getElem?_eq_getElem h3, List.getElem?_eq_getElem h4] at this; exact this
theorem mapG_getD {α β : Type} {l : List α} {q : α → β} (d : α) (d' : β) {j : Nat} (h : j < l.length) : (l.map q).getD j d' = q (l.getD j d) := by
  rw [List.getD_eq_getElem?_getD, List.getElem?_map, List.getElem?_eq_getElem h, List.getD_eq_getElem?_getD, List.getElem?_eq_getElem h]; rfl
theorem ones_drop {α : Type} {g : α → Value} {w : World} {a : Option Addr} {len : Nat} {l : List α} (h : Ones g w a len l) (cap k : Nat) (hk : k ≤ len) (hc : len ≤ cap) : Ones g w (subA a cap k 1) (len - k) (l.drop k) := by
  refine ⟨by rw [List.length_drop, h.len_eq], fun j v hj => ?_⟩
  rw [List.map_drop, List.getElem?_drop] at hj
  obtain ⟨p, hp, hcell⟩ := h.cells _ _ hj
  have hlt : k + j < len := by
    have := (List.getElem?_eq_some_iff.1 hj).1
    rw [List.length_map, h.len_eq] at this; exact this
  unfold subA
  rw [if_neg (by omega), hp]
  exact ⟨p.add (k * 1), rfl, by rw [addr_add_add, Nat.mul_one]; exact hcell⟩
/-! texts of maps -/
def WX : ByteArray := ⟨#[120]⟩
def WY : ByteArray := ⟨#[121]⟩
def WZ : ByteArray := ⟨#[122]⟩
def eqT6 (a b : ByteArray) : Bool := a.toList == b.toList
def numP (p : ByteArray) : Int := if parE p = 0 then parX p else 1073741825
def lnOK (wd : ByteArray) (ps : List ByteArray) : Bool := decide (2 ≤ ps.length) && eqT6 (ps.getD 0 ByteArray.empty) wd && (ps.drop 1).all fun p => formL (ls p)
def lnV (ps : List ByteArray) : List Int := (ps.drop 1).map numP
abbrev PO (wd l : ByteArray) : Bool := lnOK wd (piecesB 32 l)
abbrev PV (l : ByteArray) : List Int := lnV (piecesB 32 l)
def wdA (i : Nat) : ByteArray := if i = 0 then WX else if i = 1 then WY else WZ
structure MV where
  x : List Int
  y : List Int
  z : List (List Int)
def vOK (v : MV) : Bool := axisB v.x && axisB v.y && v.z.length == v.x.length && v.z.all fun r => r.length == v.y.length && r.all elB
def sfxB (s : ByteArray) : Bool := (ls s).getLast? == some 10
def bodyB (s : ByteArray) : ByteArray := if sfxB s then ⟨((ls s).dropLast).toArray⟩ else s
abbrev lnsB (s : ByteArray) : List ByteArray := piecesB 10 (bodyB s)
def allOK (L : List ByteArray) : Bool := (List.range L.length).all fun i => PO (wdA i) (L.getD i ByteArray.empty)
def mvB (L : List ByteArray) : MV := ⟨PV (L.getD 0 ByteArray.empty), PV (L.getD 1 ByteArray.empty), (L.drop 2).map PV⟩
def prE (s : ByteArray) : Int := if 16384 < s.size then 5 else if sfxB s = false ∨ (lnsB s).length < 3 then 3 else if allOK (lnsB s) then (if vOK (mvB (lnsB s)) then 0 else 1) else 3
/-! the text of a map -/
def lnT (wd : ByteArray) (l : List Int) : ByteArray := ((wd ++ (⟨#[32]⟩ : ByteArray)) ++ joinB (l.map itoaB) (⟨#[32]⟩ : ByteArray)) ++ (⟨#[10]⟩ : ByteArray)
def txV (v : MV) : ByteArray := v.z.foldl (fun t r => t ++ lnT WZ r) (lnT WX v.x ++ lnT WY v.y)
/-! a number's text -/
theorem par_itoa6 {n : Int} (h : -9223372036854775808 ≤ n ∧ n ≤ 9223372036854775807) : parE (itoaB n) = 0 ∧ parX (itoaB n) = n := by
  obtain ⟨f1, f2⟩ := form_itoa n
  have e : ls (itoaB n) = Lib.itoa n := rfl
  have hz := itoaB_size h
  have hE : parE (itoaB n) = 0 := by unfold parE; rw [if_neg (by omega), e, if_pos f1, f2, if_pos (by unfold fitL; simp [h])]
  exact ⟨hE, by unfold parX; rw [if_pos hE, e, f2]⟩
theorem numP_itoa {n : Int} (h : -1073741824 ≤ n ∧ n ≤ 1073741824) : numP (itoaB n) = n := by
  obtain ⟨h1, h2⟩ := par_itoa6 (n := n) (by omega)
  unfold numP; rw [if_pos h1, h2]
theorem itoa_numP {p : ByteArray} (h : formL (ls p) = true) (hr : -1073741824 ≤ numP p ∧ numP p ≤ 1073741824) : itoaB (numP p) = p := by
  unfold numP at hr ⊢
  split
  · rename_i he
    rw [if_pos he] at hr
    have hx : parX p = valL (ls p) := by unfold parX; rw [if_pos he]
    rw [hx]
    exact ls_inj (show Lib.itoa (valL (ls p)) = ls p from itoa_form h)
  · rename_i he
    rw [if_neg he] at hr; omega
/-! lines: pieces joined, and joined pieces split -/
def jc (c : UInt8) : List (List UInt8) → List UInt8
  | [] => []
  | [x] => x
  | x :: y :: r => x ++ c :: jc c (y :: r)
theorem jc_join (c : UInt8) (x : List UInt8) (r : List (List UInt8)) : Lib.join (x :: r) [c] = jc c (x :: r) := by
  induction r generalizing x with
  | nil => simp [Lib.join_cons, Lib.joinTail, jc]
  | cons y r ih =>
    have := ih y
    rw [jc, ← this]
    simp only [List.map_cons, Lib.join_cons, Lib.joinTail, List.flatten_cons, List.append_assoc, List.cons_append, List.nil_append]
theorem split_jc (c : UInt8) : ∀ (xs : List (List UInt8)), xs ≠ [] → (∀ x ∈ xs, c ∉ x) → splitOn c (jc c xs) = xs
  | [], h, _ => absurd rfl h
  | [x], _, h => splitOn_miss (h x List.mem_cons_self)
  | x :: y :: r, _, h => by
    rw [jc, splitOn_hit (h x List.mem_cons_self), split_jc c (y :: r) (by simp) (fun z hz => h z (List.mem_cons_of_mem _ hz))]
theorem jc_split (c : UInt8) : ∀ (n : Nat) (l : List UInt8), l.length ≤ n → jc c (splitOn c l) = l := by
  intro n
  induction n with
  | zero => intro l hl; rw [List.eq_nil_of_length_eq_zero (by omega : l.length = 0)]; rfl
  | succ n ih =>
    intro l hl
    rcases index_split (c := c) (l := l) with ⟨_, h2⟩ | ⟨a, b, h1, h2, _⟩
    · rw [splitOn_miss h2]; rfl
    · have hb := ih b (by rw [h1] at hl; simp at hl; omega)
      rw [h1, splitOn_hit h2]
      cases hs : splitOn c b with
      | nil => exact absurd hs (splitOn_ne c b)
      | cons q r => rw [hs] at hb; rw [jc, hb]
theorem joinB_jc (c : UInt8) (x : ByteArray) (r : List ByteArray) : ls (joinB (x :: r) (⟨#[c]⟩ : ByteArray)) = jc c (ls x :: r.map ls) := by
  show Lib.join ((x :: r).map ls) [c] = _
  exact jc_join c _ _
theorem pieces_ls (c : UInt8) (s : ByteArray) : (piecesB c s).map ls = splitOn c (ls s) := by
  unfold piecesB; rw [List.map_map]; exact (List.map_congr_left fun x _ => ls_mk x).trans (List.map_id _)
theorem ls_map_inj : ∀ {a b : List ByteArray}, a.map ls = b.map ls → a = b
  | [], [], _ => rfl
  | [], _ :: _, h => by cases h
  | _ :: _, [], h => by cases h
  | x :: a, y :: b, h => by obtain ⟨h1, h2⟩ := List.cons.inj h; rw [ls_inj h1, ls_map_inj h2]
/-- a line that is read as numbers of a map is their line -/
theorem line_back {wd l : ByteArray} (h : PO wd l = true) (hr : ∀ n ∈ PV l, -1073741824 ≤ n ∧ n ≤ 1073741824) : lnT wd (PV l) = l ++ (⟨#[10]⟩ : ByteArray) := by
  unfold PO lnOK at h
  simp only [Bool.and_eq_true, decide_eq_true_eq, List.all_eq_true] at h
  obtain ⟨⟨h1, h2⟩, h3⟩ := h
  have hp : (PV l).map itoaB = (piecesB 32 l).drop 1 := by
    unfold PV lnV; rw [List.map_map]
    refine (List.map_congr_left fun p hp => ?_).trans (List.map_id _)
    exact itoa_numP (h3 p hp) (hr _ (List.mem_map.2 ⟨p, hp, rfl⟩))
  unfold lnT; rw [hp]; congr 1
  apply ls_inj
  have e1 := jc_split 32 _ (ls l) (Nat.le_refl _)
  rw [← pieces_ls] at e1
  cases hq : piecesB 32 l with
  | nil => rw [hq] at h1; simp at h1
  | cons w r =>
    rw [hq] at h1 h2 e1
    cases r with
    | nil => simp at h1
    | cons p r =>
      have hw : w = wd := by
        have : ls w = ls wd := by unfold eqT6 at h2; rw [beq_ls] at h2; exact beq_iff_eq.1 h2
        exact ls_inj this
      subst hw
      rw [← e1, List.drop_succ_cons, List.drop_zero, ls_append, ls_append, joinB_jc, List.map_cons, List.map_cons, jc, List.append_assoc]; rfl
/-- a line of numbers is read as these -/
theorem line_own {wd : ByteArray} {l : List Int} (hw : 32 ∉ ls wd) (hl : l ≠ []) (hr : ∀ n ∈ l, -1073741824 ≤ n ∧ n ≤ 1073741824) (hi : ∀ n : Int, 32 ∉ ls (itoaB n)) {x : ByteArray} (hx : ls x = ls ((wd ++ (⟨#[32]⟩ : ByteArray)) ++ joinB (l.map itoaB) (⟨#[32]⟩ : ByteArray))) : PO wd x = true ∧ PV x = l := by
  have hp : piecesB 32 x = wd :: l.map itoaB := by
    apply ls_map_inj
    rw [pieces_ls, hx]
    cases l with
    | nil => exact absurd rfl hl
    | cons n r =>
      rw [ls_append, ls_append, List.map_cons, joinB_jc, List.append_assoc]
      show splitOn 32 (ls wd ++ 32 :: jc 32 (ls (itoaB n) :: (r.map itoaB).map ls)) = ls wd :: ls (itoaB n) :: (r.map itoaB).map ls
      rw [splitOn_hit hw, split_jc 32 _ (by simp) (fun y hy => ?_)]
      rcases List.mem_cons.1 hy with rfl | hy
      · exact hi n
      · obtain ⟨q, hq, rfl⟩ := List.mem_map.1 hy
        obtain ⟨m, _, rfl⟩ := List.mem_map.1 hq
        exact hi m
  have hlen : 0 < l.length := List.length_pos_iff.2 hl
  constructor
  · unfold PO lnOK; rw [hp]
    simp only [Bool.and_eq_true, decide_eq_true_eq, List.all_eq_true]
    refine ⟨⟨by simp; omega, beq_self_eq_true _⟩, fun p hp => ?_⟩
    rw [List.drop_succ_cons, List.drop_zero] at hp
    obtain ⟨n, _, rfl⟩ := List.mem_map.1 hp
    exact (form_itoa n).1
  · unfold PV lnV; rw [hp, List.drop_succ_cons, List.drop_zero, List.map_map]
    exact (List.map_congr_left fun n hn => numP_itoa (hr n hn)).trans (List.map_id _)
/-! a whole map's text -/
theorem W_no : 32 ∉ ls WX ∧ 32 ∉ ls WY ∧ 32 ∉ ls WZ ∧ 10 ∉ ls WX ∧ 10 ∉ ls WY ∧ 10 ∉ ls WZ := by decide
theorem itoa_no (n : Int) : ∀ c ∈ ls (itoaB n), c = 45 ∨ isDig c = true := by
  obtain ⟨f1, f2⟩ := form_itoa n
  have e : ls (itoaB n) = Lib.itoa n := rfl
  rw [e]
  have hc := canonL_facts (form_canon f1)
  intro c h
  cases hn : negL (Lib.itoa n) with
  | true =>
    rw [digL_neg hn] at h
    rcases List.mem_cons.1 h with rfl | h
    · exact .inl rfl
    · exact .inr (hc.2.1 c h)
  | false => rw [digL_pos hn] at hc; exact .inr (hc.2.1 c h)
theorem itoa_32 (n : Int) : 32 ∉ ls (itoaB n) := fun h => by
  rcases itoa_no n 32 h with h | h
  · exact absurd h (by decide)
  · exact absurd h (by decide)
theorem itoa_10 (n : Int) : 10 ∉ ls (itoaB n) := fun h => by
  rcases itoa_no n 10 h with h | h
  · exact absurd h (by decide)
  · exact absurd h (by decide)
/-- a line without its end -/
def lnU (wd : ByteArray) (l : List Int) : List UInt8 := ls ((wd ++ (⟨#[32]⟩ : ByteArray)) ++ joinB (l.map itoaB) (⟨#[32]⟩ : ByteArray))
theorem lnT_ls (wd : ByteArray) (l : List Int) : ls (lnT wd l) = lnU wd l ++ [10] := by unfold lnT lnU; rw [ls_append]
theorem jc_mem {c : UInt8} : ∀ {xs : List (List UInt8)} {y : UInt8}, y ∈ jc c xs → y = c ∨ ∃ x ∈ xs, y ∈ x
  | [], y, h => by cases h
  | [x], y, h => .inr ⟨x, List.mem_cons_self, h⟩
  | x :: z :: r, y, h => by
    rw [jc] at h
    rcases List.mem_append.1 h with h | h
    · exact .inr ⟨x, List.mem_cons_self, h⟩
    · rcases List.mem_cons.1 h with h | h
      · exact .inl h
      · rcases jc_mem h with h | ⟨q, hq, h⟩
        · exact .inl h
        · exact .inr ⟨q, List.mem_cons_of_mem _ hq, h⟩
theorem lnU_10 {wd : ByteArray} (hw : 10 ∉ ls wd) (l : List Int) : 10 ∉ lnU wd l := by
  intro h
  unfold lnU at h
  rw [ls_append, ls_append] at h
  rcases List.mem_append.1 h with h | h
  · rcases List.mem_append.1 h with h | h
    · exact hw h
    · exact absurd h (by decide)
  · cases l with
    | nil => cases h
    | cons n r =>
      rw [List.map_cons, joinB_jc] at h
      rcases jc_mem h with h | ⟨x, hx, h⟩
      · exact absurd h (by decide)
      · rcases List.mem_cons.1 hx with rfl | hx
        · exact itoa_10 n h
        · obtain ⟨q, hq, rfl⟩ := List.mem_map.1 hx
          obtain ⟨m, _, rfl⟩ := List.mem_map.1 hq
          exact itoa_10 m h
def mvU (v : MV) : List (List UInt8) := lnU WX v.x :: lnU WY v.y :: v.z.map (lnU WZ)
theorem foldl_ls : ∀ (z : List (List Int)) (t : ByteArray), ls (z.foldl (fun t r => t ++ lnT WZ r) t) = ls t ++ (z.map (lnU WZ)).flatMap (· ++ [10])
  | [], t => by simp
  | r :: z, t => by rw [List.foldl_cons, foldl_ls z, ls_append, lnT_ls, List.map_cons, List.flatMap_cons, List.append_assoc]
theorem txV_ls (v : MV) : ls (txV v) = (mvU v).flatMap (· ++ [10]) := by
  unfold txV mvU; rw [foldl_ls, ls_append, lnT_ls, lnT_ls, List.flatMap_cons, List.flatMap_cons, List.append_assoc]
theorem flat_jc (c : UInt8) : ∀ (xs : List (List UInt8)), xs ≠ [] → xs.flatMap (· ++ [c]) = jc c xs ++ [c]
  | [], h => absurd rfl h
  | [x], _ => by simp [jc]
  | x :: y :: r, _ => by rw [List.flatMap_cons, flat_jc c (y :: r) (by simp), jc, List.append_assoc, List.append_assoc]; rfl
theorem mvU_10 (v : MV) : ∀ x ∈ mvU v, 10 ∉ x := by
  obtain ⟨_, _, _, h4, h5, h6⟩ := W_no
  intro x hx
  unfold mvU at hx
  rcases List.mem_cons.1 hx with rfl | hx
  · exact lnU_10 h4 _
  · rcases List.mem_cons.1 hx with rfl | hx
    · exact lnU_10 h5 _
    · obtain ⟨r, _, rfl⟩ := List.mem_map.1 hx; exact lnU_10 h6 _
theorem lns_own {s : ByteArray} {xs : List (List UInt8)} (hn : xs ≠ []) (h : ls s = xs.flatMap (· ++ [10])) (h10 : ∀ x ∈ xs, 10 ∉ x) : sfxB s = true ∧ (lnsB s).map ls = xs := by
  rw [flat_jc 10 xs hn] at h
  have hs : sfxB s = true := by unfold sfxB; rw [h, List.getLast?_concat]; rfl
  refine ⟨hs, ?_⟩
  unfold lnsB bodyB; rw [if_pos hs, pieces_ls, ls_mk, h, List.dropLast_concat, split_jc 10 xs hn h10]
theorem text_lns {s : ByteArray} (hs : sfxB s = true) : ls s = ((lnsB s).map ls).flatMap (· ++ [10]) := by
  have h1 : (ls s).getLast? = some 10 := beq_iff_eq.1 hs
  have hne : ls s ≠ [] := fun e => by rw [e] at h1; cases h1
  have h2 : ls s = (ls s).dropLast ++ [10] := by
    have h3 := List.getLast?_eq_some_getLast hne
    rw [h1] at h3
    conv => lhs; rw [← List.dropLast_concat_getLast hne]
    rw [← Option.some.inj h3]
  have h4 : (lnsB s).map ls = splitOn 10 (ls s).dropLast := by unfold lnsB bodyB; rw [if_pos hs, pieces_ls, ls_mk]
  rw [h4, flat_jc 10 _ (splitOn_ne _ _), jc_split 10 _ _ (Nat.le_refl _)]; exact h2
/-- what is read as a valid map is its text -/
theorem back_text {s : ByteArray} (h : prE s = 0) : txV (mvB (lnsB s)) = s ∧ vOK (mvB (lnsB s)) = true := by
  unfold prE at h
  split at h
  · cases h
  split at h
  · cases h
  rename_i _ h2
  split at h
  · rename_i h3
    split at h
    · rename_i h4
      refine ⟨?_, h4⟩
      have hs : sfxB s = true := by cases hb : sfxB s with | true => rfl | false => exact absurd (.inl hb) h2
      have hl : 3 ≤ (lnsB s).length := by omega
      apply ls_inj
      rw [txV_ls, text_lns hs]
      unfold allOK at h3; rw [List.all_eq_true] at h3
      have hv := h4
      unfold vOK mvB at hv
      simp only [Bool.and_eq_true, beq_iff_eq, List.all_eq_true] at hv
      obtain ⟨⟨⟨v1, v2⟩, _⟩, v4⟩ := hv
      have ax : ∀ l : List Int, axisB l = true → ∀ n ∈ l, -1073741824 ≤ n ∧ n ≤ 1073741824 := fun l ha n hn => by
        obtain ⟨j, hj, rfl⟩ := List.mem_iff_getElem.1 hn
        have := (axis_facts ha).2.1 j hj
        rw [List.getD_eq_getElem?_getD, List.getElem?_eq_getElem hj] at this; exact this
      generalize lnsB s = L at *
      match L, hl with
      | a :: b :: r, _ =>
        have e1 : lnU WX (PV a) = ls a := by
          have := line_back (wd := WX) (l := a) (h3 0 (by simp)) (ax _ v1)
          have := congrArg ls this
          rw [lnT_ls, ls_append] at this
          exact List.append_cancel_right this
        have e2 : lnU WY (PV b) = ls b := by
          have := line_back (wd := WY) (l := b) (h3 1 (by simp)) (ax _ v2)
          have := congrArg ls this
          rw [lnT_ls, ls_append] at this
          exact List.append_cancel_right this
        have e3 : (r.map PV).map (lnU WZ) = r.map ls := by
          rw [List.map_map]
          refine List.map_congr_left fun x hx => ?_
          obtain ⟨j, hj, rfl⟩ := List.mem_iff_getElem.1 hx
          have hq := h3 (j + 2) (by simp; omega)
          have hw : wdA (j + 2) = WZ := by unfold wdA; rw [if_neg (by omega), if_neg (by omega)]
          rw [hw, show (a :: b :: r).getD (j + 2) ByteArray.empty = r[j] by rw [List.getD_eq_getElem?_getD]; show r[j]?.getD _ = _; rw [List.getElem?_eq_getElem hj]; rfl] at hq
          have hr := v4 (PV r[j]) (List.mem_map.2 ⟨_, List.getElem_mem hj, rfl⟩)
          have := line_back (wd := WZ) (l := r[j]) hq (fun n hn => elB_iff.1 (hr.2 n hn))
          have := congrArg ls this
          rw [lnT_ls, ls_append] at this
          exact List.append_cancel_right this
        show (lnU WX (PV a) :: lnU WY (PV b) :: (r.map PV).map (lnU WZ)).flatMap (· ++ [10]) = _
        rw [e1, e2, e3]; rfl
    · cases h
  · cases h
/-- the text of a valid map is read as this map -/
theorem own_text {v : MV} (hv : vOK v = true) (hz : (txV v).size ≤ 16384) : prE (txV v) = 0 ∧ mvB (lnsB (txV v)) = v := by
  obtain ⟨w1, w2, w3, _, _, _⟩ := W_no
  obtain ⟨h1, h2⟩ := lns_own (s := txV v) (xs := mvU v) (by unfold mvU; simp) (txV_ls v) (mvU_10 v)
  have hv' := hv
  unfold vOK at hv'
  simp only [Bool.and_eq_true, beq_iff_eq, List.all_eq_true] at hv'
  obtain ⟨⟨⟨v1, v2⟩, v3⟩, v4⟩ := hv'
  obtain ⟨a1, a2, _⟩ := axis_facts v1
  obtain ⟨b1, b2, _⟩ := axis_facts v2
  have ax : ∀ l : List Int, axisB l = true → ∀ n ∈ l, -1073741824 ≤ n ∧ n ≤ 1073741824 := fun l ha n hn => by
    obtain ⟨j, hj, rfl⟩ := List.mem_iff_getElem.1 hn
    have := (axis_facts ha).2.1 j hj
    rw [List.getD_eq_getElem?_getD, List.getElem?_eq_getElem hj] at this; exact this
  have ne : ∀ l : List Int, 2 ≤ l.length → l ≠ [] := fun l h e => by rw [e] at h; simp at h
  have hL : lnsB (txV v) = (mvU v).map fun x => ⟨x.toArray⟩ := by
    apply ls_map_inj; rw [h2, List.map_map]; exact ((List.map_congr_left fun x _ => ls_mk x).trans (List.map_id _)).symm
  rw [show mvU v = lnU WX v.x :: lnU WY v.y :: v.z.map (lnU WZ) from rfl, List.map_cons, List.map_cons, List.map_map] at hL
  have l1 := line_own w1 (ne _ a1.1) (ax _ v1) itoa_32 (x := ⟨(lnU WX v.x).toArray⟩) (ls_mk _)
  have l2 := line_own w2 (ne _ b1.1) (ax _ v2) itoa_32 (x := ⟨(lnU WY v.y).toArray⟩) (ls_mk _)
  have l3 : ∀ r ∈ v.z, PO WZ ⟨(lnU WZ r).toArray⟩ = true ∧ PV ⟨(lnU WZ r).toArray⟩ = r := fun r hr => by
    have h := v4 r hr
    exact line_own w3 (ne _ (by rw [h.1]; exact b1.1)) (fun n hn => elB_iff.1 (h.2 n hn)) itoa_32 (ls_mk _)
  have hm : mvB (lnsB (txV v)) = v := by
    rw [hL]; unfold mvB
    show (⟨PV ⟨(lnU WX v.x).toArray⟩, PV ⟨(lnU WY v.y).toArray⟩, (v.z.map _).map PV⟩ : MV) = v
    have e4 : v.z.map (PV ∘ (fun x => (⟨x.toArray⟩ : ByteArray)) ∘ lnU WZ) = v.z := (List.map_congr_left fun r hr => (l3 r hr).2).trans (List.map_id _)
    rw [l1.2, l2.2, List.map_map, e4]
  refine ⟨?_, hm⟩
  have ho : allOK (lnsB (txV v)) = true := by
    rw [hL]; unfold allOK; rw [List.all_eq_true]
    intro i hi
    rw [List.mem_range] at hi
    match i with
    | 0 => exact l1.1
    | 1 => exact l2.1
    | j + 2 =>
      have hj : j < v.z.length := by simpa using hi
      have e : wdA (j + 2) = WZ := by unfold wdA; rw [if_neg (by omega), if_neg (by omega)]
      rw [e, List.getD_eq_getElem?_getD]
      show PO WZ ((v.z.map _)[j]?.getD _) = true
      rw [List.getElem?_map, List.getElem?_eq_getElem hj]
      exact (l3 _ (List.getElem_mem hj)).1
  have hl : 3 ≤ (lnsB (txV v)).length := by rw [hL]; simp; omega
  unfold prE
  rw [if_neg (by omega), if_neg (by rw [h1]; simp; omega), if_pos ho, hm, if_pos hv]
/-! sizes -/
theorem joinI_size {l : List Int} (hq : ∀ y ∈ l, -9223372036854775808 ≤ y ∧ y ≤ 9223372036854775807) : (joinB (l.map itoaB) (⟨#[32]⟩ : ByteArray)).size ≤ l.length * 25 := by
  have h := joinB_size (l := l.map itoaB) (sep := (⟨#[32]⟩ : ByteArray)) (k := 24) (fun b hb => by obtain ⟨n, hn, rfl⟩ := List.mem_map.1 hb; have := itoaB_size (hq n hn); omega)
  rw [List.length_map] at h; exact h
theorem lnT_size {wd : ByteArray} {l : List Int} (hw : wd.size ≤ 10) (hl : l.length ≤ 4096) (hq : ∀ y ∈ l, -9223372036854775808 ≤ y ∧ y ≤ 9223372036854775807) : (lnT wd l).size ≤ 102420 := by
  have h := joinI_size hq
  unfold lnT
  rw [ByteArray.size_append, ByteArray.size_append, ByteArray.size_append]
  have h1 : (⟨#[32]⟩ : ByteArray).size = 1 := rfl
  have h2 : (⟨#[10]⟩ : ByteArray).size = 1 := rfl
  omega
theorem tx_step {L : List (List Int)} {t0 t : ByteArray} {i : Int} (ht : t = (L.take i.toNat).foldl (fun t r => t ++ lnT WZ r) t0) (h0 : 0 ≤ i) (hi : i < (L.length : Int)) {r : List Int} (hr : L.getD i.toNat [] = r) : t ++ lnT WZ r = (L.take (i + 1).toNat).foldl (fun t r => t ++ lnT WZ r) t0 := by
  rw [show (i + 1).toNat = i.toNat + 1 by omega, List.take_succ_eq_append_getElem (by omega), List.foldl_append, ← ht, ← hr, List.getD_eq_getElem?_getD, List.getElem?_eq_getElem (by omega)]; rfl
/-! reading -/
theorem canon_no {s d : ByteArray} (hd : ls d = digL (ls s)) (h : d.size = 0 ∨ ∃ c ∈ ls d, isDig c = false) : formL (ls s) = false := by
  have hl := ls_length d
  unfold formL; rw [← hd]
  rcases h with h | ⟨c, hc, h⟩
  · rw [List.eq_nil_of_length_eq_zero (show (ls d).length = 0 by omega)]; rfl
  · rw [show (ls d).all isDig = false from List.all_eq_false.2 ⟨c, hc, by rw [h]; decide⟩, Bool.and_false, Bool.false_and]
theorem canon_yes {s d : ByteArray} (hd : ls d = digL (ls s)) (h : d.size ≠ 0) (h2 : ∀ c ∈ ls d, isDig c = true) : formL (ls s) = !((byteAt d 0 == 48) && decide (1 < s.size)) := by
  have hl := ls_length d
  have hs := ls_length s
  unfold formL; rw [← hd]
  cases hx : ls d with
  | nil => rw [hx] at hl; simp at hl; omega
  | cons c r =>
    rw [hx] at h2
    rw [show (c :: r).all isDig = true from List.all_eq_true.2 h2, byteAt_ls, hx]
    show (true && true && !((some c == some 48) && decide (1 < (ls s).length))) = _
    rw [hs, Bool.true_and, Bool.true_and]
    congr 2
    show (some c == some 48) = (((c.toNat : Nat) : Int) == 48)
    by_cases h4 : c = 48
    · subst h4; rfl
    · rw [show (some c == some (48 : UInt8)) = false by rw [beq_eq_false_iff_ne]; intro e; exact h4 (Option.some.inj e), eq_comm, beq_eq_false_iff_ne]
      intro e; exact h4 (UInt8.toNat_inj.1 (show c.toNat = 48 by omega))

/-! another element, and points that are far from it -/
theorem curve_far {xs ys zs : List Int} {a : Nat} {x : Int} (ax : axisB xs = true) (ha : a < xs.length) (hd : ∀ k, k < xs.length → k ≠ a → ys.getD k 0 = zs.getD k 0) (hf : (0 < a ∧ x ≤ xs.getD (a - 1) 0) ∨ (a + 1 < xs.length ∧ xs.getD (a + 1) 0 ≤ x)) : curveF xs ys x = curveF xs zs x := by
  obtain ⟨i, x', hi, h1, h2, h3, hx⟩ := seg_exists x ax
  have hlt := axis_mono ax (show i < i + 1 by omega) hi
  rw [curve_seg ax hi h1 h2 h3 hx, curve_seg ax hi h1 h2 h3 hx]
  have hl := (axis_facts ax).1
  have hlast := axis_le ax (show i + 1 ≤ xs.length - 1 by omega) (by omega)
  have h0 := axis_le ax (show 0 ≤ i by omega) (by omega)
  by_cases c1 : i = a
  · subst c1
    rcases hf with ⟨f0, f1⟩ | ⟨f0, f1⟩
    · have g1 := axis_mono ax (show i - 1 < i by omega) ha
      have g2 := axis_le ax (show 0 ≤ i - 1 by omega) (by omega)
      omega
    · have e : x' = xs.getD (i + 1) 0 := by omega
      rw [e, btw_right _ _ hlt, btw_right _ _ hlt]; exact hd (i + 1) hi (by omega)
  · by_cases c2 : i + 1 = a
    · subst c2
      rcases hf with ⟨f0, f1⟩ | ⟨f0, f1⟩
      · rw [Nat.add_sub_cancel] at f1
        have e : x' = xs.getD i 0 := by omega
        rw [e, btw_left, btw_left]; exact hd i (by omega) (by omega)
      · have g1 := axis_mono ax (show i + 1 < i + 1 + 1 by omega) f0
        have g2 := axis_le ax (show i + 1 + 1 ≤ xs.length - 1 by omega) (by omega)
        omega
    · rw [hd i (by omega) c1, hd (i + 1) hi c2]
def mvM (m : Mp) : MV := ⟨m.gX_l, m.gY_l, m.gZ_l.map fun r => r.gS_l⟩
def setV (v : MV) (a b : Nat) (z : Int) : MV := ⟨v.x, v.y, v.z.set a ((v.z.getD a []).set b z)⟩
/-- the lengths of a map's slices are those of its lists -/
def lenM (m : Mp) : Prop := m.gX_n = m.gX_l.length ∧ m.gY_n = m.gY_l.length ∧ m.gZ_n = m.gZ_l.length ∧ ∀ r ∈ m.gZ_l, r.gS_n = r.gS_l.length
theorem zl_at (m : Mp) (i : Nat) : (mvM m).z.getD i [] = (m.gZ_l.getD i rw0).gS_l := by
  show (m.gZ_l.map _).getD i [] = _
  rw [List.getD_eq_getElem?_getD, List.getElem?_map, List.getD_eq_getElem?_getD]; cases m.gZ_l[i]? <;> rfl
theorem valid_v {m : Mp} (h : lenM m) : validM m = vOK (mvM m) := by
  obtain ⟨h1, h2, h3, h4⟩ := h
  unfold validM vOK mvM
  show (axisB m.gX_l && axisB m.gY_l && m.gZ_n == m.gX_n && m.gZ_l.all (rowB m.gY_n)) = (axisB m.gX_l && axisB m.gY_l && (m.gZ_l.map _).length == m.gX_l.length && (m.gZ_l.map _).all _)
  rw [List.length_map, h1, h3, List.all_map]
  congr 1
  rw [Bool.eq_iff_iff, List.all_eq_true, List.all_eq_true]
  refine ⟨fun h r hr => ?_, fun h r hr => ?_⟩
  · have := h r hr; unfold rowB at this; rw [h4 r hr, h2] at this; exact this
  · have := h r hr; unfold rowB; rw [h4 r hr, h2]; exact this
section
variable {m c : Mp} {a b : Nat} {z : Int}
theorem set_z (hc : mvM c = setV (mvM m) a b z) (i j : Nat) (ha : a < m.gZ_l.length) (hb : b < (m.gZ_l.getD a rw0).gS_l.length) : zF c i j = if i = a ∧ j = b then z else zF m i j := by
  unfold zF
  rw [← zl_at, ← zl_at, hc]
  show (((mvM m).z.set a (((mvM m).z.getD a []).set b z)).getD i []).getD j 0 = _
  have hz : a < (mvM m).z.length := by show a < (m.gZ_l.map _).length; rw [List.length_map]; exact ha
  have hb' : b < ((mvM m).z.getD a []).length := by rw [zl_at]; exact hb
  by_cases h1 : i = a
  · subst h1
    rw [setG_at hz]
    by_cases h2 : j = b
    · subst h2; rw [if_pos ⟨rfl, rfl⟩, setG_at hb']
    · rw [if_neg (fun h => h2 h.2), setG_ne (fun h => h2 h.symm)]
  · rw [if_neg (fun h => h1 h.1)]
    rw [setG_ne (fun h => h1 h.symm)]
theorem set_parts (hc : mvM c = setV (mvM m) a b z) : c.gX_l = m.gX_l ∧ c.gY_l = m.gY_l := ⟨congrArg MV.x hc, congrArg MV.y hc⟩
theorem set_valid (hv : vOK (mvM m) = true) (hz : elB z = true) : vOK (setV (mvM m) a b z) = true := by
  unfold vOK setV at *
  simp only [Bool.and_eq_true, beq_iff_eq, List.all_eq_true] at hv ⊢
  obtain ⟨⟨⟨h1, h2⟩, h3⟩, h4⟩ := hv
  by_cases ha : a < (mvM m).z.length
  · refine ⟨⟨⟨h1, h2⟩, by rw [List.length_set]; exact h3⟩, fun r hr => ?_⟩
    rcases List.mem_or_eq_of_mem_set hr with hr | hr
    · exact h4 r hr
    · rw [hr]
      have hm : (mvM m).z.getD a [] ∈ (mvM m).z := by rw [List.getD_eq_getElem?_getD, List.getElem?_eq_getElem ha]; exact List.getElem_mem ha
      obtain ⟨q1, q2⟩ := h4 _ hm
      exact ⟨by rw [List.length_set]; exact q1, fun n hn => by rcases List.mem_or_eq_of_mem_set hn with hn | hn; exact q2 n hn; rw [hn]; exact hz⟩
  · rw [List.set_eq_of_length_le (by omega)]
    exact ⟨⟨⟨h1, h2⟩, h3⟩, h4⟩
theorem set_node (hm : lenM m) (hl : lenM c) (hv : validM m = true) (hc : mvM c = setV (mvM m) a b z) (ha : a < m.gX_n) (hb : b < m.gY_n) : valueF c (m.gX_l.getD a 0) (m.gY_l.getD b 0) = z := by
  obtain ⟨e1, e2⟩ := set_parts hc
  obtain ⟨h1, h2, h3, h4⟩ := valid_facts hv
  obtain ⟨m1, m2, m3, m4⟩ := hm
  obtain ⟨c1, c2, c3, c4⟩ := hl
  have n1 : c.gX_n = m.gX_n := by rw [c1, m1, e1]
  have n2 : c.gY_n = m.gY_n := by rw [c2, m2, e2]
  have hr : (m.gZ_l.getD a rw0).gS_l.length = m.gY_n := by rw [← (h4 a (by omega)).1]; exact (m4 _ (getD_mem rw0 (by omega))).symm
  rw [← e1, ← e2, value_node (by rw [c1]) (by rw [c2]) (by rw [e1]; exact h1) (by rw [e2]; exact h2) (by omega) (by omega), set_z hc a b (by omega) (by omega), if_pos ⟨rfl, rfl⟩]
theorem set_far (hm : lenM m) (hl : lenM c) (hv : validM m = true) (hc : mvM c = setV (mvM m) a b z) (ha : a < m.gX_n) (hb : b < m.gY_n) {x y : Int}
    (hf : ((0 < a ∧ x ≤ m.gX_l.getD (a - 1) 0) ∨ (a + 1 < m.gX_n ∧ m.gX_l.getD (a + 1) 0 ≤ x)) ∨ ((0 < b ∧ y ≤ m.gY_l.getD (b - 1) 0) ∨ (b + 1 < m.gY_n ∧ m.gY_l.getD (b + 1) 0 ≤ y))) : valueF c x y = valueF m x y := by
  obtain ⟨e1, e2⟩ := set_parts hc
  obtain ⟨h1, h2, h3, h4⟩ := valid_facts hv
  obtain ⟨m1, m2, m3, m4⟩ := hm
  obtain ⟨c1, c2, c3, c4⟩ := hl
  have n1 : c.gX_n = m.gX_n := by rw [c1, m1, e1]
  have n2 : c.gY_n = m.gY_n := by rw [c2, m2, e2]
  have hr : (m.gZ_l.getD a rw0).gS_l.length = m.gY_n := by rw [← (h4 a (by omega)).1]; exact (m4 _ (getD_mem rw0 (by omega))).symm
  have hz := fun i j => set_z hc i j (by omega) (by omega)
  unfold valueF; rw [e2]
  rcases hf with hf | hf
  · have : ∀ j, j < m.gY_n → (colF c x).getD j 0 = (colF m x).getD j 0 := fun j hj => by
      rw [colF_getD c x (by omega), colF_getD m x hj, e1]
      refine curve_far (a := a) h1 (by omega) (fun k hk hne => ?_) (by rcases hf with hf | hf; exact .inl hf; exact .inr ⟨by omega, hf.2⟩)
      rw [colZ_getD c (by omega), colZ_getD m (by omega), hz, if_neg (fun h => hne h.1)]
    have e : colF c x = colF m x := extG 0 (by rw [colF_length, colF_length]; omega) fun k hk => this k (by rw [colF_length] at hk; omega)
    rw [e]
  · refine curve_far (a := b) h2 (by omega) (fun k hk hne => ?_) (by rcases hf with hf | hf; exact .inl hf; exact .inr ⟨by omega, hf.2⟩)
    rw [colF_getD c x (by omega), colF_getD m x (by omega), e1]
    congr 1
    refine extG 0 (by rw [colZ_length, colZ_length]; omega) fun i hi => ?_
    rw [colZ_length] at hi
    rw [colZ_getD c (by omega), colZ_getD m (by omega), hz, if_neg (fun h => hne h.2)]
end

end Go.Proofs.YtadgnficogeheaaGreatDoor

