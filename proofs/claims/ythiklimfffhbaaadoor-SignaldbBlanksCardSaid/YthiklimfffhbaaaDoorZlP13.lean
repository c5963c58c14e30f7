/- Walks of functions of this seat, printed by a program over the engine. Conditions: as each theorem says. -/
import Derived.Test.YthiklimfffhbaaaDoorZlP12
import Derived.Test.YthiklimfffhbaaaDoorZlEng16
namespace Go.Proofs.YthiklimfffhbaaaDoor
open Go.Eng Go.RowKit
set_option linter.unusedSimpArgs false
set_option linter.unusedVariables false
theorem ones_drop {α : Type} {g : α → Value} {w : World} {a : Option Addr} {len : Nat} {l : List α} (h : Ones g w a len l) (cap k : Nat) (hk : k ≤ len) (hc : len ≤ cap) : Ones g w (subA a cap k 1) (len - k) (l.drop k) := by
  refine ⟨by rw [List.length_drop, h.len_eq], fun j v hj => ?_⟩
  rw [List.map_drop, List.getElem?_drop] at hj
  obtain ⟨p, hp, hcell⟩ := h.cells _ _ hj
  have hlt : k + j < len := by
    have := (List.getElem?_eq_some_iff.1 hj).1
    rw [List.length_map, h.len_eq] at this; exact this
  unfold subA
  rw [if_neg (by omega), hp]
  exact ⟨p.add (k * 1), rfl, by rw [addr_add_add, Nat.mul_one]; exact hcell⟩
/-! frames whose signals are rows of the call's own -/
def tlF (out : List Frm) : List Eng.Claim := out.reverse.map fun x => rowOf sigE x.gSignals_a x.gSignals_c 57 10 x.gSignals_l
theorem tlF_snoc (out : List Frm) (x : Frm) : tlF (out ++ [x]) = rowOf sigE x.gSignals_a x.gSignals_c 57 10 x.gSignals_l :: tlF out := by
  unfold tlF; rw [List.reverse_append]; rfl
theorem last_snoc {out : List Frm} (h : out.length ≠ 0) : out = out.dropLast ++ [out.getD (out.length - 1) frm0] := by
  have hn : out ≠ [] := fun e => h (by rw [e]; rfl)
  rw [List.getD_eq_getElem?_getD, List.getElem?_eq_getElem (by omega), Option.getD_some, ← List.getLast_eq_getElem hn]; exact (List.dropLast_concat_getLast hn).symm
theorem tlF_last {out : List Frm} (h : out.length ≠ 0) : tlF out = rowOf sigE (out.getD (out.length - 1) frm0).gSignals_a (out.getD (out.length - 1) frm0).gSignals_c 57 10 (out.getD (out.length - 1) frm0).gSignals_l :: tlF out.dropLast := by
  conv => lhs; rw [last_snoc h]
  exact tlF_snoc _ _
theorem tlF_lastI {out : List Frm} (h : out.length ≠ 0) : tlF out = rowOf sigE (out.getD ((out.length : Int) - 1).toNat frm0).gSignals_a (out.getD ((out.length : Int) - 1).toNat frm0).gSignals_c 57 10 (out.getD ((out.length : Int) - 1).toNat frm0).gSignals_l :: tlF out.dropLast := by
  rw [show ((out.length : Int) - 1).toNat = out.length - 1 by omega]; exact tlF_last h
theorem set_last {out : List Frm} (h : out.length ≠ 0) (x : Frm) : out.set ((out.length : Int) - 1).toNat x = out.dropLast ++ [x] := by
  have e := last_snoc h
  have hl : out.dropLast.length = ((out.length : Int) - 1).toNat := by rw [List.length_dropLast]; omega
  rw [← hl]; conv => lhs; arg 1; rw [e]
  rw [List.set_append_right _ _ (Nat.le_refl _), Nat.sub_self]; rfl
theorem tlF_set {out : List Frm} (h : out.length ≠ 0) (x : Frm) : tlF (out.set ((out.length : Int) - 1).toNat x) = rowOf sigE x.gSignals_a x.gSignals_c 57 10 x.gSignals_l :: tlF out.dropLast := by
  rw [set_last h]; exact tlF_snoc _ _

theorem row_cell {α : Type} {g : α → List Value} {w : World} {a : Option Addr} {c : Nat} {e : TypeId} {z : Nat} {l : List α} (h : (rowOf g a c e z l).holds w) (hs : ∀ x, (g x).length = z) (hz : 0 < z) {p : Addr} (hp : a = some p) (d : α) (n : Nat) (hn : n < l.length) (j : Nat) (v : Value) (hv : (g (l.getD n d))[j]? = some v) : w.cell? ((p.add (n * z)).add j) = some v := by
  obtain ⟨p', hp', hc⟩ := (rowOf_recs h _ rfl hs hz).at d n hn
  rw [hp] at hp'; cases hp'; exact hc j v hv
theorem Sep.sub {w0 w : World} {L L' : List Eng.Claim} (h : L'.Sublist L) (S : Sep w0 L w) : Sep w0 L' w :=
  ⟨S.below, fun c hc => S.all c (h.subset hc), fun c hc => S.fresh c (h.subset hc), S.apart.sublist h⟩
theorem fst_at (L : List Wd) (k : Nat) : (L.map Prod.fst).getD k ByteArray.empty = wAt L k := by
  show _ = (L.getD k wd0).1
  rw [List.getD_eq_getElem?_getD, List.getElem?_map, List.getD_eq_getElem?_getD]; cases L[k]? <;> rfl
theorem fst_drop (L : List Wd) (k : Nat) : ((L.map Prod.fst).drop 1).getD k ByteArray.empty = wAt L (k + 1) := by
  rw [← fst_at, List.getD_eq_getElem?_getD, List.getElem?_drop, List.getD_eq_getElem?_getD, Nat.add_comm]
theorem snd_at (L : List Wd) (k : Nat) : (L.map Prod.snd).getD k 0 = (L.getD k wd0).2 := by
  rw [List.getD_eq_getElem?_getD, List.getElem?_map, List.getD_eq_getElem?_getD]; cases L[k]? <;> rfl
theorem w_size {l : List UInt8} {L : List Wd} (hL : L = wdsL l) (h : l.length ≤ 1000000) (k : Nat) : (wAt L k).size ≤ 1000000 := by
  show (L.getD k wd0).1.size ≤ _
  rw [List.getD_eq_getElem?_getD]
  cases hx : L[k]? with
  | none => exact Nat.zero_le _
  | some x =>
    have := wF_size (beforeL 35 l) [] 1 x (by have := List.mem_of_getElem? hx; rw [hL] at this; exact this)
    have hb := before_len 35 l
    simp at this; show x.1.size ≤ 1000000; omega
theorem line_frame {b : Bool} {L : List Wd} {e : Int} (h : eqT (wAt L 0) WFr = true) : lineE b L e = rdS ksF 1 (L.drop 1) e := by unfold lineE; rw [if_pos h]
theorem line_sig {b : Bool} {L : List Wd} {e : Int} (h : eqT (wAt L 0) WFr = false) (h2 : eqT (wAt L 0) WSg = true) (h3 : b = true) : lineE b L e = rdS ksS 0 (L.drop 1) e := by
  unfold lineE; rw [if_neg (by rw [h]; decide), if_pos (by rw [h2, h3]; rfl)]
theorem line_none {b : Bool} {L : List Wd} {e : Int} (h : eqT (wAt L 0) WFr = false) (h2 : eqT (wAt L 0) WSg = false ∨ b = false) : lineE b L e = some ((L.getD 0 wd0).2, 3) := by
  unfold lineE; rw [if_neg (by rw [h]; decide), if_neg (by rcases h2 with h2 | h2 <;> rw [h2] <;> simp)]
theorem some_cl (out : List Frm) : (!(out.map clF).isEmpty) = decide ((out.length : Int) > 0) := by cases out <;> simp
section
variable {s x : ByteArray} {i : Int} {oc : List Frm} {L : List Wd} {R : Option (Int × Int)} {c e : Int}
theorem bad_line (hQ : parsF s = parP ((splitOn 10 (ls s)).drop i.toNat) (i + 1) oc) (h0 : 0 ≤ i) (hi : i < ((splitOn 10 (ls s)).length : Int)) (hx1 : ls x = (splitOn 10 (ls s)).getD i.toNat []) (hL : L = wdsL (ls x)) (hl : ¬ L.length = 0) (hRl : R = lineE (!oc.isEmpty) L ((x.size : Int) + 1)) (hx : R = some (c, e)) : parsF s = ⟨[], i + 1, c, e⟩ :=
  pp_bad hQ h0 hi (hL.trans (by rw [hx1])) hl (n := x.size) (by rw [← hx1, ls_length]) rfl (hRl.symm.trans hx)
theorem good_line (hQ : parsF s = parP ((splitOn 10 (ls s)).drop i.toNat) (i + 1) oc) (h0 : 0 ≤ i) (hi : i < ((splitOn 10 (ls s)).length : Int)) (hx1 : ls x = (splitOn 10 (ls s)).getD i.toNat []) (hL : L = wdsL (ls x)) (hl : ¬ L.length = 0) (hRl : R = lineE (!oc.isEmpty) L ((x.size : Int) + 1)) (hx : R = none) : parsF s = parP ((splitOn 10 (ls s)).drop (i + 1).toNat) (i + 1 + 1) (addL oc L) :=
  pp_ok hQ h0 hi (hL.trans (by rw [hx1])) hl (n := x.size) (by rw [← hx1, ls_length]) rfl (hRl.symm.trans hx)
end
theorem getD_cl (out : List Frm) (k : Nat) : (out.map clF).getD k frm0 = clF (out.getD k frm0) := by
  rw [List.getD_eq_getElem?_getD, List.getElem?_map, List.getD_eq_getElem?_getD]; cases out[k]? <;> rfl
theorem fr_add {out : List Frm} {L : List Wd} (hk : eqT (wAt L 0) WFr = true) {f : Frm} (hf : clF f = frmL L) : addL (out.map clF) L = (out ++ [f]).map clF := by
  unfold addL; rw [if_pos hk, List.map_append, ← hf]; rfl
theorem sg_add {out : List Frm} {L : List Wd} (hk : eqT (wAt L 0) WFr = false) (ho : out.length ≠ 0) {x : Frm} (hx : clF x = addSg (clF (out.getD ((out.length : Int) - 1).toNat frm0)) (sigL L)) : addL (out.map clF) L = (out.set ((out.length : Int) - 1).toNat x).map clF := by
  unfold addL; rw [if_neg (by rw [hk]; decide), set_last ho, List.map_append, List.map_dropLast, getD_cl, List.length_map, show out.length - 1 = ((out.length : Int) - 1).toNat by omega, ← hx]; rfl
theorem cl_add {f : Frm} {y : Sig} {L : List Wd} (hy : y = sigL L) (a : Option Addr) (c : Nat) : clF ({ f with gSignals_a := a, gSignals_n := (f.gSignals_l ++ [y]).length, gSignals_c := c, gSignals_l := f.gSignals_l ++ [y] } : Frm) = addSg (clF f) (sigL L) := by
  rw [← hy]; unfold clF addSg; simp
/-! bounds -/
theorem px (t : ByteArray) : -9223372036854775808 ≤ parX t ∧ parX t ≤ 9223372036854775807 := by
  unfold parX; split
  · rename_i h
    unfold parE at h
    split at h
    · cases h
    · split at h
      · split at h
        · rename_i h3; unfold fitL at h3; simpa using h3
        · cases h
      · cases h
  · omega
def okG (x : Sig) : Prop := ∀ w : World, sigQ w x
def okF (x : Frm) : Prop := x.gSignals_n = x.gSignals_l.length ∧ x.gName.size ≤ 9223372036854775807 ∧ (-9223372036854775808 ≤ x.gID ∧ x.gID ≤ 9223372036854775807) ∧ (-9223372036854775808 ≤ x.gLength ∧ x.gLength ≤ 9223372036854775807) ∧ ∀ y ∈ x.gSignals_l, okG y
theorem okG_of {n : ByteArray} (hn : n.size ≤ 1000000) (m g : Bool) {a b c d e f h : Int} (ha : -9223372036854775808 ≤ a ∧ a ≤ 9223372036854775807) (hb : -9223372036854775808 ≤ b ∧ b ≤ 9223372036854775807) (hc : -9223372036854775808 ≤ c ∧ c ≤ 9223372036854775807) (hd : -9223372036854775808 ≤ d ∧ d ≤ 9223372036854775807) (he : -9223372036854775808 ≤ e ∧ e ≤ 9223372036854775807) (hf : -9223372036854775808 ≤ f ∧ f ≤ 9223372036854775807) (hh : -9223372036854775808 ≤ h ∧ h ≤ 9223372036854775807) : okG ⟨n, a, b, m, g, c, d, e, f, h⟩ :=
  fun w => ⟨Nat.le_trans hn (by decide), ha, hb, hc, hd, he, hf, hh, trivial⟩
theorem okF_of {n : ByteArray} (hn : n.size ≤ 1000000) (g : Bool) {a b : Int} (ha : -9223372036854775808 ≤ a ∧ a ≤ 9223372036854775807) (hb : -9223372036854775808 ≤ b ∧ b ≤ 9223372036854775807) : okF ⟨n, a, b, g, none, 0, 0, []⟩ :=
  ⟨rfl, Nat.le_trans hn (by decide), ha, hb, fun y hy => by cases hy⟩
theorem okF_add {f : Frm} (h : okF f) {y : Sig} (hy : okG y) (a : Option Addr) (c : Nat) : okF ({ f with gSignals_a := a, gSignals_n := (f.gSignals_l ++ [y]).length, gSignals_c := c, gSignals_l := f.gSignals_l ++ [y] } : Frm) :=
  ⟨rfl, h.2.1, h.2.2.1, h.2.2.2.1, fun z hz => by
    rcases List.mem_append.1 hz with hz | hz
    · exact h.2.2.2.2 z hz
    · rw [List.mem_singleton.1 hz]; exact hy⟩
section
variable {out : List Frm} {Q : Frm → Prop}
theorem all_snoc (h : ∀ y ∈ out, Q y) {f : Frm} (hf : Q f) : ∀ y ∈ out ++ [f], Q y := fun y hy => by
  rcases List.mem_append.1 hy with hy | hy
  · exact h y hy
  · rw [List.mem_singleton.1 hy]; exact hf
theorem all_set (h : ∀ y ∈ out, Q y) {f : Frm} (hf : Q f) (k : Nat) : ∀ y ∈ out.set k f, Q y := fun y hy => by
  rcases List.mem_or_eq_of_mem_set hy with hy | hy
  · exact h y hy
  · rw [hy]; exact hf
theorem all_last (h : ∀ y ∈ out, Q y) (ho : out.length ≠ 0) : Q (out.getD ((out.length : Int) - 1).toNat frm0) := by
  refine h _ ?_
  rw [List.getD_eq_getElem?_getD, List.getElem?_eq_getElem (by omega)]; exact List.getElem_mem _
end
theorem tl_q {w0 w : World} {L1 : List Eng.Claim} {out : List Frm} (S : Sep w0 (L1 ++ tlF out) w) (h : ∀ x ∈ out, okF x) : ∀ x ∈ out, frmQ w x := by
  intro x hx
  obtain ⟨h1, h2, h3, h4, h5⟩ := h x hx
  have hc := S.all (rowOf sigE x.gSignals_a x.gSignals_c 57 10 x.gSignals_l) (List.mem_append.2 (.inr (List.mem_map.2 ⟨_, List.mem_reverse.2 hx, rfl⟩)))
  exact ⟨h2, h3, h4, ⟨by rw [h1]; exact (rowOf_cells hc).2.2, rowOf_cap hc⟩, rowOf_recs hc _ h1.symm (fun _ => rfl) (by decide), fun y hy => h5 y hy w, trivial⟩
/-! the first fault depends on the frames without their addresses -/
theorem fault_cl {out : List Frm} (h : ∀ x ∈ out, okF x) (a : Option Addr) (c : Nat) : faultF ⟨a, out.length, c, out⟩ = faultF (dbOf (out.map clF)) := by
  have hn : ∀ k, (out.getD k frm0).gSignals_n = (out.getD k frm0).gSignals_l.length := by
    intro k; rw [List.getD_eq_getElem?_getD]
    cases hx : out[k]? with
    | none => rfl
    | some x => exact (h x (List.mem_of_getElem? hx)).1
  have hh : ∀ k, headErr ⟨a, out.length, c, out⟩ k = headErr (dbOf (out.map clF)) k := by
    intro k
    show (if nameB (out.getD k frm0).gName = false then _ else _) = (if nameB ((out.map clF).getD k frm0).gName = false then _ else if hdBad ((out.map clF).getD k frm0) then _ else if 16 < ((out.map clF).getD k frm0).gSignals_n then _ else if (((out.map clF).take k).any (twinB ((out.map clF).getD k frm0))) then _ else _)
    rw [getD_cl, ← List.map_take, List.any_map]
    show (if _ then _ else if _ then _ else if 16 < (out.getD k frm0).gSignals_n then _ else _) = _
    rw [hn k]; rfl
  have hr : frmR ⟨a, out.length, c, out⟩ = frmR (dbOf (out.map clF)) := by
    funext k
    unfold frmR; rw [hh k]
    show (if _ then ((out.getD k frm0).gName, _) else sigsF (out.getD k frm0)) = (if _ then (((out.map clF).getD k frm0).gName, _) else sigsF ((out.map clF).getD k frm0))
    rw [getD_cl]; rfl
  unfold faultF
  rw [hr]
  show (if 64 < out.length then _ else pickF out.length _) = (if 64 < (out.map clF).length then _ else pickF (out.map clF).length _)
  rw [List.length_map]
/-! what Parse answers -/
def PPost (s : ByteArray) (w : World) (v : Value) (w' : World) : Prop := ∃ a c, ∃ out : List Frm, v = .tuple #[.agg #[.slice a out.length c], .agg #[iv (parsF s).pl, iv (parsF s).pc], iv (parsF s).e] ∧ out.map clF = (parsF s).l ∧ (∀ x ∈ out, okF x) ∧ Sep w (rowOf frmE a c 34 5 out :: tlF out) w'
theorem bad_post {s : ByteArray} {w w' : World} {L : List Eng.Claim} {ln c e : Int} (h : parsF s = ⟨[], ln, c, e⟩) (S : Sep w L w') : PPost s w (.tuple #[.agg #[.slice none 0 0], .agg #[iv ln, iv c], iv e]) w' :=
  ⟨none, 0, [], by rw [h]; rfl, by rw [h]; rfl, (fun x hx => by cases hx), S.nil.nilRow 34 5⟩
section
variable {s : ByteArray} {w w' : World} {out : List Frm} {i : Int} {ra : Option Addr} {rc : Nat} {L : List Eng.Claim}
theorem fin_ok (hQ : parsF s = finP (out.map clF)) (hof : ∀ x ∈ out, okF x) (hf : (faultF (⟨ra, out.length, rc, out⟩ : Db)).2 = 0) (S : Sep w (rowOf frmE ra rc 34 5 out :: tlF out) w') : PPost s w (.tuple #[.agg #[.slice ra out.length rc], .agg #[iv 0, iv 0], iv 0]) w' := by
  rw [fault_cl hof] at hf
  have e : parsF s = ⟨out.map clF, 0, 0, 0⟩ := by rw [hQ, finP, if_pos hf]
  exact ⟨ra, rc, out, by rw [e], by rw [e], hof, S⟩
theorem fin_bad (hQ : parsF s = finP (out.map clF)) (hof : ∀ x ∈ out, okF x) (hf : ¬ (faultF (⟨ra, out.length, rc, out⟩ : Db)).2 = 0) (S : Sep w L w') : PPost s w (.tuple #[.agg #[.slice none 0 0], .agg #[iv 0, iv 0], iv (faultF (⟨ra, out.length, rc, out⟩ : Db)).2]) w' := by
  rw [fault_cl hof] at hf ⊢
  exact bad_post (by rw [hQ, finP, if_neg hf]) S
end

theorem split_any2 (s : ByteArray) (w : World) (hsz : s.size ≤ 1000000) (hW : TabW w) : Ret Tryd.prog 38 #[.string s] w (fun v w' => ∃ L : List Wd, L = wdsL (ls s) ∧ ∃ A B a c a2 c2, (A = L.map Prod.fst ∧ B = L.map Prod.snd) ∧ v = .tuple #[.slice a A.length c, .slice a2 B.length c2, iv ((s.size : Int) + 1)] ∧ Sep w [rowOf (enc1 Value.string) a c 9 1 A, rowOf Eng.encI a2 c2 3 1 B] w') :=
  (split_any s w hsz hW).mono fun v w' ⟨a, c, a2, c2, hv, S⟩ => ⟨_, rfl, _, _, a, c, a2, c2, ⟨rfl, rfl⟩, hv, S⟩
end Go.Proofs.YthiklimfffhbaaaDoor

