/- Walks of functions of this seat, printed by a program over the engine. Conditions: as each theorem says. -/
import Derived.Test.YthiklimfffhbaaaDoorZlP21
import Derived.Test.YthiklimfffhbaaaDoorZlP20
namespace Go.Proofs.YthiklimfffhbaaaDoor
open Go.Eng Go.RowKit
set_option linter.unusedSimpArgs false
set_option linter.unusedVariables false
/-! further blanks, comments and empty lines -/
def repB (c : UInt8) (new l : List UInt8) : List UInt8 := l.flatMap fun x => if x = c then new else [x]
theorem repB_miss {c : UInt8} {new : List UInt8} : ∀ {l : List UInt8}, c ∉ l → repB c new l = l
  | [], _ => rfl
  | x :: l, h => by
    unfold repB; rw [List.flatMap_cons, if_neg (fun e => h (by rw [e]; exact List.mem_cons_self))]
    have := repB_miss (new := new) (fun h2 => h (List.mem_cons_of_mem x h2))
    unfold repB at this; rw [this]; rfl
theorem repB_app (c : UInt8) (new a b : List UInt8) : repB c new (a ++ b) = repB c new a ++ repB c new b := List.flatMap_append
theorem replaceK_on {c : UInt8} {new : List UInt8} : ∀ (n : Nat) (l : List UInt8), l.length ≤ n → Lib.replaceK [c] new (Lib.count l [c]) l = repB c new l := by
  intro n
  induction n with
  | zero =>
    intro l hl
    have : l = [] := List.eq_nil_of_length_eq_zero (by omega)
    subst this
    rw [Lib.count_miss (by simp [Lib.index])]; rfl
  | succ n ih =>
    intro l hl
    rcases index_split (c := c) (l := l) with ⟨h1, h2⟩ | ⟨a, b, h1, h2, h3⟩
    · rw [Lib.count_miss h1, repB_miss h2]; rfl
    · rw [Lib.count_hit (by simp) h3, Nat.add_comm 1, Lib.replaceK_hit _ _ _ _ _ h3]
      have e1 : l.take a.length = a := by rw [h1, List.take_left]
      have e2 : l.drop (a.length + ([c] : List UInt8).length) = b := by rw [h1, ← List.drop_drop, List.drop_left]; rfl
      rw [e1, e2, ih b (by rw [h1] at hl; simp at hl; omega), h1, repB_app, repB_miss h2, List.append_assoc]
      congr 1
      show _ = repB c new (c :: b)
      unfold repB; rw [List.flatMap_cons, if_pos rfl]
theorem replaceAll_on {c : UInt8} {new : List UInt8} (hn : [c] ≠ new) (l : List UInt8) : Lib.replaceAll l [c] new = repB c new l := by
  unfold Lib.replaceAll Lib.replace
  rw [if_neg (by simpa using hn), show Lib.replaceNum l [c] (-1) = Lib.count l [c] from if_pos (.inl (by decide))]
  exact replaceK_on _ l (Nat.le_refl _)
theorem repB_len {c : UInt8} {new : List UInt8} (hn : new.length = 2) : ∀ l : List UInt8, (repB c new l).length ≤ 2 * l.length
  | [] => Nat.zero_le _
  | x :: l => by
    have := repB_len (c := c) hn l
    unfold repB at this ⊢; rw [List.flatMap_cons, List.length_append, List.length_cons]
    split
    · omega
    · show 0 + 1 + _ ≤ _; omega
def flT (cur : List UInt8) : List ByteArray := if cur = [] then [] else [⟨cur.toArray⟩]
def wT : List UInt8 → List UInt8 → List ByteArray
  | [], cur => flT cur
  | c :: r, cur => if c = 32 ∨ c = 9 then flT cur ++ wT r [] else wT r (cur ++ [c])
theorem wOf_fst2 (cur : List UInt8) (col : Int) : (wOf cur col).map Prod.fst = flT cur := by unfold wOf flT; split <;> rfl
theorem wF_fst : ∀ (l cur : List UInt8) (col : Int), (wF l cur col).map Prod.fst = wT l cur
  | [], cur, col => wOf_fst2 cur col
  | c :: r, cur, col => by
    rw [wF, wT]; split
    · rw [List.map_append, wOf_fst2, wF_fst r]
    · exact wF_fst r _ _
section
variable {bl : List UInt8}
theorem wT_blank (hb : bl = [32, 32] ∨ bl = [9, 32]) (r cur : List UInt8) : wT (bl ++ r) cur = flT cur ++ wT r [] := by
  rcases hb with rfl | rfl
  · show wT (32 :: 32 :: r) cur = _
    rw [wT, if_pos (.inl rfl), wT, if_pos (.inl rfl)]; rfl
  · show wT (9 :: 32 :: r) cur = _
    rw [wT, if_pos (.inr rfl), wT, if_pos (.inl rfl)]; rfl
theorem wT_rep (hb : bl = [32, 32] ∨ bl = [9, 32]) : ∀ (l cur : List UInt8), wT (repB 32 bl l ++ [32]) cur = wT l cur
  | [], cur => by
    show wT [32] cur = flT cur
    rw [wT, if_pos (.inl rfl)]; show flT cur ++ [] = _; rw [List.append_nil]
  | c :: l, cur => by
    unfold repB; rw [List.flatMap_cons]
    by_cases h : c = 32
    · rw [if_pos h, List.append_assoc, wT_blank hb, wT, if_pos (.inl h)]
      have := wT_rep hb l []
      unfold repB at this; rw [this]
    · rw [if_neg h]
      show wT (c :: (l.flatMap (fun x => if x = 32 then bl else [x]) ++ [32])) cur = _
      rw [wT, wT]
      have h1 := wT_rep hb l []
      have h2 := wT_rep hb l (cur ++ [c])
      unfold repB at h1 h2; rw [h1, h2]
theorem before_app {a r : List UInt8} (h : ∀ x ∈ a, x ≠ 35) : beforeL 35 (a ++ 35 :: r) = a := by
  induction a with
  | nil => rw [List.nil_append, before_cons, if_pos rfl]
  | cons x a ih => rw [List.cons_append, before_cons, if_neg (h x List.mem_cons_self), ih (fun y hy => h y (List.mem_cons_of_mem _ hy))]
theorem before_no : ∀ (l : List UInt8), ∀ x ∈ beforeL 35 l, x ≠ 35
  | [], x, h => by cases h
  | y :: l, x, h => by
    rw [before_cons] at h; split at h
    · cases h
    · rename_i hy
      rcases List.mem_cons.1 h with rfl | h
      · exact hy
      · exact before_no l x h
theorem repB_mem {c y : UInt8} {new l : List UInt8} (h : y ∈ repB c new l) : y ∈ new ∨ y ∈ l := by
  obtain ⟨x, hx, hy⟩ := List.mem_flatMap.1 h
  split at hy
  · exact .inl hy
  · rw [List.mem_singleton.1 hy]; exact .inr hx
def bline (bl cm l : List UInt8) : List UInt8 := bl ++ repB 32 bl (beforeL 35 l) ++ [32, 35] ++ cm
theorem wds_bline (hb : bl = [32, 32] ∨ bl = [9, 32]) (cm l : List UInt8) : (wdsL (bline bl cm l)).map Prod.fst = (wdsL l).map Prod.fst := by
  have hn : ∀ x ∈ bl ++ (repB 32 bl (beforeL 35 l) ++ [32]), x ≠ 35 := by
    have hbl : ∀ x ∈ bl, x ≠ 35 := by rcases hb with rfl | rfl <;> decide
    intro x hx
    rcases List.mem_append.1 hx with hx | hx
    · exact hbl x hx
    · rcases List.mem_append.1 hx with hx | hx
      · rcases repB_mem hx with hx | hx
        · exact hbl x hx
        · exact before_no l x hx
      · rw [List.mem_singleton.1 hx]; decide
  have e : bline bl cm l = (bl ++ (repB 32 bl (beforeL 35 l) ++ [32])) ++ 35 :: cm := by unfold bline; simp only [List.append_assoc, List.cons_append, List.nil_append]
  unfold wdsL
  rw [e, before_app hn, wF_fst, wF_fst, wT_blank hb, wT_rep hb]; rfl
end
theorem wds_nil : wdsL [] = [] := rfl
theorem wds_hash (cm : List UInt8) : wdsL (35 :: cm) = [] := by unfold wdsL; rw [before_cons, if_pos rfl]; rfl
/-! a line's error and values depend on its texts -/
theorem rd_txt : ∀ (ks : List Nat) (opt : Nat) (L L' : List Wd) (e e' : Int), L.map Prod.fst = L'.map Prod.fst → (rdS ks opt L e).map Prod.snd = (rdS ks opt L' e').map Prod.snd
  | [], _, [], [], _, _, _ => rfl
  | [], _, _ :: _, _ :: _, _, _, _ => rfl
  | [], _, [], _ :: _, _, _, h => by cases h
  | [], _, _ :: _, [], _, _, h => by cases h
  | k :: ks, opt, [], [], _, _, _ => by rw [rdS, rdS]; split <;> rfl
  | k :: ks, opt, [], _ :: _, _, _, h => by cases h
  | k :: ks, opt, _ :: _, [], _, _, h => by cases h
  | k :: ks, opt, x :: L, y :: L', e, e', h => by
    obtain ⟨h1, h2⟩ := List.cons.inj h
    rw [rdS, rdS, h1]; split
    · exact rd_txt ks opt L L' e e' h2
    · rfl
theorem map_drop1 {L L' : List Wd} (h : L.map Prod.fst = L'.map Prod.fst) : (L.drop 1).map Prod.fst = (L'.drop 1).map Prod.fst := by rw [List.map_drop, List.map_drop, h]
theorem wAt_txt {L L' : List Wd} (h : L.map Prod.fst = L'.map Prod.fst) (k : Nat) : wAt L k = wAt L' k := by rw [← fst_at, ← fst_at, h]
theorem line_txt {L L' : List Wd} (h : L.map Prod.fst = L'.map Prod.fst) (b : Bool) (e e' : Int) : (lineE b L e).map Prod.snd = (lineE b L' e').map Prod.snd := by
  unfold lineE; rw [wAt_txt h 0]
  split
  · exact rd_txt _ _ _ _ _ _ (map_drop1 h)
  · split
    · exact rd_txt _ _ _ _ _ _ (map_drop1 h)
    · rfl
theorem add_txt {L L' : List Wd} (h : L.map Prod.fst = L'.map Prod.fst) (out : List Frm) : addL out L = addL out L' := by
  have hl : L.length = L'.length := by have := congrArg List.length h; simpa using this
  unfold addL frmL sigL; simp only [wAt_txt h, hl]
def exL (bl cm l : List UInt8) : List (List UInt8) := [bline bl cm l, [], 35 :: cm]
def sameP (R R' : PRes) : Prop := R'.e = R.e ∧ R'.l = R.l ∧ ((R'.pl = 0 ∧ R'.pc = 0) ↔ (R.pl = 0 ∧ R.pc = 0))
theorem par_ex {bl : List UInt8} (hb : bl = [32, 32] ∨ bl = [9, 32]) (cm : List UInt8) : ∀ (ps : List (List UInt8)) (ln ln' : Int) (out : List Frm), 0 < ln → 0 < ln' → sameP (parP ps ln out) (parP (ps.flatMap (exL bl cm)) ln' out)
  | [], _, _, _, _, _ => ⟨rfl, rfl, Iff.rfl⟩
  | p :: ps, ln, ln', out, h1, h2 => by
    have hw := wds_bline hb cm p
    have e : (p :: ps).flatMap (exL bl cm) = bline bl cm p :: [] :: (35 :: cm) :: ps.flatMap (exL bl cm) := rfl
    have e2 : ∀ (ln : Int) (out : List Frm), parP ([] :: (35 :: cm) :: ps.flatMap (exL bl cm)) ln out = parP (ps.flatMap (exL bl cm)) (ln + 1 + 1) out := fun ln out => by
      rw [parP, if_pos wds_nil, parP, if_pos (wds_hash cm)]
    rw [e, parP, parP]
    by_cases h0 : wdsL p = []
    · have h0' : wdsL (bline bl cm p) = [] := by rw [h0] at hw; exact List.map_eq_nil_iff.1 hw
      rw [if_pos h0, if_pos h0', e2]
      exact par_ex hb cm ps _ _ out (by omega) (by omega)
    · have h0' : wdsL (bline bl cm p) ≠ [] := fun h => h0 (by rw [h] at hw; exact List.map_eq_nil_iff.1 hw.symm)
      rw [if_neg h0, if_neg h0']
      have hl := line_txt hw (!out.isEmpty) (((bline bl cm p).length : Int) + 1) ((p.length : Int) + 1)
      cases hx : lineE (!out.isEmpty) (wdsL p) ((p.length : Int) + 1) with
      | none =>
        rw [hx] at hl
        rw [Option.map_eq_none_iff.1 hl]
        show sameP (parP ps (ln + 1) (addL out (wdsL p))) (parP ([] :: (35 :: cm) :: ps.flatMap (exL bl cm)) (ln' + 1) (addL out (wdsL (bline bl cm p))))
        rw [e2, add_txt hw]
        exact par_ex hb cm ps _ _ _ (by omega) (by omega)
      | some x =>
        rw [hx] at hl
        obtain ⟨y, hy, hyx⟩ := Option.map_eq_some_iff.1 hl
        rw [hy]
        refine ⟨hyx, rfl, ⟨fun h => ?_, fun h => ?_⟩⟩
        · have : ln' = 0 := h.1
          omega
        · have : ln = 0 := h.1
          omega
/-! the new text's pieces -/
def jn : List (List UInt8) → List UInt8
  | [] => []
  | [x] => x
  | x :: y :: r => x ++ 10 :: jn (y :: r)
theorem jn_join (x : List UInt8) (r : List (List UInt8)) : Lib.join (x :: r) [10] = jn (x :: r) := by
  induction r generalizing x with
  | nil => simp [Lib.join_cons, Lib.joinTail, jn]
  | cons y r ih =>
    have := ih y
    rw [jn, ← this]
    simp only [List.map_cons, Lib.join_cons, Lib.joinTail, List.flatten_cons, List.append_assoc, List.cons_append, List.nil_append]
theorem split_jn : ∀ (xs : List (List UInt8)), xs ≠ [] → (∀ x ∈ xs, 10 ∉ x) → splitOn 10 (jn xs) = xs
  | [], h, _ => absurd rfl h
  | [x], _, h => splitOn_miss (h x List.mem_cons_self)
  | x :: y :: r, _, h => by
    rw [jn, splitOn_hit (h x List.mem_cons_self), split_jn (y :: r) (by simp) (fun z hz => h z (List.mem_cons_of_mem _ hz))]
def exB (bl cm x : ByteArray) : List ByteArray := [(((bl ++ (⟨(repB 32 (ls bl) (beforeL 35 (ls x))).toArray⟩ : ByteArray)) ++ (⟨#[32, 35]⟩ : ByteArray)) ++ cm), ByteArray.empty, (⟨#[35]⟩ : ByteArray) ++ cm]
theorem before_mem {c : UInt8} : ∀ {l : List UInt8} {x : UInt8}, x ∈ beforeL c l → x ∈ l
  | [], x, h => by cases h
  | y :: l, x, h => by
    rw [before_cons] at h; split at h
    · cases h
    · rcases List.mem_cons.1 h with rfl | h
      · exact List.mem_cons_self
      · exact List.mem_cons_of_mem _ (before_mem h)
theorem exL_ten {bl cm l : List UInt8} (hb : bl = [32, 32] ∨ bl = [9, 32]) (hc : 10 ∉ cm) (hl : 10 ∉ l) : ∀ x ∈ exL bl cm l, 10 ∉ x := by
  have hbl : ∀ x ∈ bl, x ≠ 10 := by rcases hb with rfl | rfl <;> decide
  intro x hx
  simp only [exL, List.mem_cons, List.not_mem_nil, or_false] at hx
  rcases hx with rfl | rfl | rfl
  · intro h
    unfold bline at h
    rcases List.mem_append.1 h with h | h
    · rcases List.mem_append.1 h with h | h
      · rcases List.mem_append.1 h with h | h
        · exact hbl _ h rfl
        · rcases repB_mem h with h | h
          · exact hbl _ h rfl
          · exact hl (before_mem h)
      · exact absurd h (by decide)
    · exact hc h
  · intro h; cases h
  · intro h
    rcases List.mem_cons.1 h with h | h
    · exact absurd h (by decide)
    · exact hc h
theorem split_no10 : ∀ (l : List UInt8), ∀ p ∈ splitOn 10 l, (10 : UInt8) ∉ p
  | [], p, h => by rw [List.mem_singleton.1 h]; exact fun h => by cases h
  | x :: l, p, h => by
    rw [splitOn] at h
    split at h
    · rcases List.mem_cons.1 h with rfl | h
      · exact fun h => by cases h
      · exact split_no10 l p h
    · rename_i hx
      have ih := split_no10 l
      cases hs : splitOn 10 l with
      | nil => rw [hs] at h; rw [List.mem_singleton.1 h]; exact fun h2 => by rcases List.mem_cons.1 h2 with h2 | h2; exact hx h2.symm; cases h2
      | cons a q =>
        rw [hs] at h ih
        rcases List.mem_cons.1 h with rfl | h
        · exact fun h2 => by rcases List.mem_cons.1 h2 with h2 | h2; exact hx h2.symm; exact ih a List.mem_cons_self h2
        · exact ih p (List.mem_cons_of_mem _ h)
theorem par_blanks {s t cm bl : ByteArray} (hb : ls bl = [32, 32] ∨ ls bl = [9, 32]) (hc : 10 ∉ ls cm) (hs : s.size ≤ 16384) (ht : t.size ≤ 16384) (hj : t = joinB ((piecesB 10 s).flatMap (exB bl cm)) (⟨#[10]⟩ : ByteArray)) : sameP (parsF s) (parsF t) := by
  have hm : ((piecesB 10 s).flatMap (exB bl cm)).map ls = (splitOn 10 (ls s)).flatMap (exL (ls bl) (ls cm)) := by
    unfold piecesB
    rw [List.map_flatMap, List.flatMap_map]
    congr 1
  have hne : (splitOn 10 (ls s)).flatMap (exL (ls bl) (ls cm)) ≠ [] := by
    cases h : splitOn 10 (ls s) with
    | nil => exact absurd h (splitOn_ne 10 (ls s))
    | cons a l => rw [List.flatMap_cons]; exact fun h => by cases h
  have hl : splitOn 10 (ls t) = (splitOn 10 (ls s)).flatMap (exL (ls bl) (ls cm)) := by
    rw [hj, joinB_ls, hm, show ls (⟨#[10]⟩ : ByteArray) = [10] from rfl]
    cases h : (splitOn 10 (ls s)).flatMap (exL (ls bl) (ls cm)) with
    | nil => exact absurd h hne
    | cons a l =>
      rw [jn_join, split_jn _ (by simp) (fun x hx => ?_)]
      rw [← h] at hx
      obtain ⟨p, hp, hx⟩ := List.mem_flatMap.1 hx
      exact exL_ten hb hc (split_no10 _ p hp) x hx
  unfold parsF
  rw [if_neg (by omega), if_neg (by omega), hl]
  exact par_ex hb (ls cm) _ 1 1 [] (by decide) (by decide)
theorem repB_size {new b : ByteArray} (hn : new.size = 2) (l : ByteArray) (h : b = (⟨(repB 32 (ls new) (ls l)).toArray⟩ : ByteArray)) : b.size ≤ 2 * l.size := by
  have h1 := repB_len (c := 32) (new := ls new) (by rw [ls_length, hn]) (ls l)
  rw [ls_length] at h1
  rw [h, ← ls_length, ls_mk]; exact h1
def blB (t : Bool) : ByteArray := if t then ⟨#[9, 32]⟩ else ⟨#[32, 32]⟩
theorem blB_ls (t : Bool) : ls (blB t) = [32, 32] ∨ ls (blB t) = [9, 32] := by cases t; exact .inl rfl; exact .inr rfl
theorem ex_step {Pz ou : List ByteArray} {i : Int} {f : ByteArray → List ByteArray} (h : ou = (Pz.take i.toNat).flatMap f) (h0 : 0 ≤ i) (hi : i < (Pz.length : Int)) {x : ByteArray} (hx : x = Pz.getD i.toNat ByteArray.empty) {l : List ByteArray} (hl : l = f x) : ou ++ l = (Pz.take (i + 1).toNat).flatMap f := by
  rw [show (i + 1).toNat = i.toNat + 1 by omega, List.take_succ_eq_append_getElem (by omega), List.flatMap_append, ← h, hl, hx, List.getD_eq_getElem?_getD, List.getElem?_eq_getElem (by omega)]
  simp
theorem no_ten {x : ByteArray} (h : decide (0 ≤ Lib.indexByte (ls x) 10) = false) : 10 ∉ ls x := by
  intro hm
  have h1 := of_decide_eq_false h
  have h2 : Lib.indexByte (ls x) 10 = -1 := by have := Lib.indexByte_ge (ls x) 10; omega
  obtain ⟨k, hk, e⟩ := List.mem_iff_getElem.1 hm
  exact Lib.indexByte_none h2 k (by rw [List.getElem?_eq_getElem hk, e])
theorem pos_eq {a b a' b' : Int} (h : (a' = 0 ∧ b' = 0) ↔ (a = 0 ∧ b = 0)) : (((a == 0) && (b == 0)) == ((a' == 0) && (b' == 0))) = true := by
  have e : ∀ x y : Int, ((x == 0) && (y == 0)) = decide (x = 0 ∧ y = 0) := fun x y => by
    by_cases h1 : x = 0 <;> by_cases h2 : y = 0 <;> simp [h1, h2]
  rw [e, e, beq_iff_eq]; exact decide_eq_decide.2 h.symm
theorem three_size {l : List ByteArray} (h : ∀ x ∈ l, x.size ≤ 10000) {a b : ByteArray} (ha : a.size ≤ 10000) (hb : b.size ≤ 10000) : ∀ x ∈ l ++ [a, ByteArray.empty, b], x.size ≤ 10000 := fun x hx => by
  rcases List.mem_append.1 hx with hx | hx
  · exact h x hx
  · simp only [List.mem_cons, List.not_mem_nil, or_false] at hx
    rcases hx with rfl | rfl | rfl
    · exact ha
    · exact Nat.zero_le _
    · exact hb

theorem hb21 : HasBody Tryd.prog 21 := fun _ _ => by kernel_rfl
theorem hb18 : HasBody Tryd.prog 18 := fun _ _ => by kernel_rfl
theorem replall_any (s new : ByteArray) (w : World) (hs : s.size ≤ 1000000) (hn : ls new = [32, 32] ∨ ls new = [9, 32]) (hW : TabW w) : Ret Tryd.prog 21 #[.string s, .string ⟨#[32]⟩, .string new] w (fun v w' => v = .string (⟨(repB 32 (ls new) (ls s)).toArray⟩ : ByteArray) ∧ Sep w [] w') := by
  obtain ⟨m, hm⟩ := hW.2.2.2
  have hz : new.size = 2 := by rw [← ls_length]; rcases hn with h | h <;> rw [h] <;> rfl
  have hc : Lib.countB s ⟨#[32]⟩ ≤ s.size := by
    have h1 := splitB_len 32 s
    have h2 := splitOn_bound 32 (ls s)
    have h3 := pieces_len 32 s
    have h4 := ls_length s
    omega
  have hne : ([32] : List UInt8) ≠ ls new := by rcases hn with h | h <;> rw [h] <;> decide
  have hl : s.size + Lib.countB s ⟨#[32]⟩ * new.size ≤ 140737488355328 := by rw [hz]; omega
  refine Calls.mono (Tryd.strings_ReplaceAll s ⟨#[32]⟩ new m w (by omega) hm (Nat.le_refl 1) hl) fun e w' ⟨he, hw⟩ => ?_
  subst he
  exact ⟨_, by rw [show Lib.replaceAll s.data.toList (⟨#[32]⟩ : ByteArray).data.toList new.data.toList = repB 32 (ls new) (ls s) from replaceAll_on hne (ls s)] <;> rfl, rfl, .of_below hw⟩
theorem contains10_any (s : ByteArray) (w : World) : Ret Tryd.prog 18 #[.string s, .string ⟨#[10]⟩] w (fun v w' => v = .bool (decide (0 ≤ Lib.indexByte (ls s) 10)) ∧ Sep w [] w') :=
  Ret.of_calls (Tryd.strings_Contains_one s 10 w) fun w' hw => ⟨rfl, by subst hw; exact .refl _⟩
end Go.Proofs.YthiklimfffhbaaaDoor

