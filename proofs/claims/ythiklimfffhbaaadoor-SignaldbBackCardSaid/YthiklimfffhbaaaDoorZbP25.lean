/- Walks of functions of this seat, printed by a program over the engine. Conditions: as each theorem says. -/
import Derived.Test.YthiklimfffhbaaaDoorZbP24
import Derived.Test.YthiklimfffhbaaaDoorZbP20
namespace Go.Proofs.YthiklimfffhbaaaDoor
open Go.Eng Go.RowKit
set_option linter.unusedSimpArgs false
set_option linter.unusedVariables false
/-! a database's own text read again -/
theorem par_itoa {n : Int} (h : -9223372036854775808 ≤ n ∧ n ≤ 9223372036854775807) : parE (itoaB n) = 0 ∧ parX (itoaB n) = n := by
  obtain ⟨f1, f2⟩ := form_itoa n
  have e : ls (itoaB n) = Lib.itoa n := rfl
  have hz := itoaB_size h
  have hE : parE (itoaB n) = 0 := by unfold parE; rw [if_neg (by omega), e, if_pos f1, f2, if_pos (by unfold fitL; simp [h])]
  exact ⟨hE, by unfold parX; rw [if_pos hE, e, f2]⟩
theorem num_itoa {n : Int} (h : -1099511627776 ≤ n ∧ n ≤ 1099511627776) : numOk (itoaB n) = true := by
  obtain ⟨h1, h2⟩ := par_itoa (n := n) (by omega)
  unfold numOk inB; rw [h1, h2]; simp [h]
def plainC (c : UInt8) : Prop := c ≠ 10 ∧ c ≠ 32 ∧ c ≠ 35 ∧ c ≠ 9
def plainW (x : ByteArray) : Prop := ls x ≠ [] ∧ ∀ c ∈ ls x, plainC c
theorem itoa_plain (n : Int) : plainW (itoaB n) := by
  obtain ⟨f1, f2⟩ := form_itoa n
  have e : ls (itoaB n) = Lib.itoa n := rfl
  unfold plainW; rw [e]
  have hc := canonL_facts (form_canon f1)
  have hd : ∀ c ∈ digL (Lib.itoa n), plainC c := fun c h => by
    have := hc.2.1 c h
    simp only [isDig, Bool.and_eq_true, decide_eq_true_eq] at this
    exact ⟨fun e => by rw [e] at this; exact absurd this (by decide), fun e => by rw [e] at this; exact absurd this (by decide), fun e => by rw [e] at this; exact absurd this (by decide), fun e => by rw [e] at this; exact absurd this (by decide)⟩
  constructor
  · intro h0
    apply hc.1
    have := (digL_len (Lib.itoa n)).1
    rw [h0] at this; exact List.eq_nil_of_length_eq_zero (by simpa [h0] using this)
  · intro c h
    cases hn : negL (Lib.itoa n) with
    | true =>
      rw [digL_neg hn] at h
      rcases List.mem_cons.1 h with rfl | h
      · exact ⟨by decide, by decide, by decide, by decide⟩
      · exact hd c h
    | false => rw [digL_pos hn] at hd; exact hd c h
theorem name_plain {x : ByteArray} (h : nameB x = true) : plainW x := by
  have hl := ls_length x
  unfold nameB at h
  simp only [Bool.and_eq_true, decide_eq_true_eq, List.all_eq_true, List.mem_range] at h
  obtain ⟨⟨⟨h1, h2⟩, h3⟩, h4⟩ := h
  refine ⟨fun e => by rw [e] at hl; simp at hl; omega, fun c hc => ?_⟩
  obtain ⟨j, hj, rfl⟩ := List.mem_iff_getElem.1 hc
  have h5 := h4 j (by omega)
  have h6 : byteAt x j = (ls x)[j].toNat := by rw [byteAt_ls, List.getD_eq_getElem?_getD, List.getElem?_eq_getElem hj]; rfl
  unfold partB letterB digitB at h5; rw [h6] at h5
  refine ⟨fun e => ?_, fun e => ?_, fun e => ?_, fun e => ?_⟩ <;> (rw [e] at h5; exact absurd h5 (by decide))
def lnB : List ByteArray → List UInt8
  | [] => []
  | [x] => ls x
  | x :: y :: r => ls x ++ 32 :: lnB (y :: r)
theorem lnB_join (x : ByteArray) (r : List ByteArray) : ls (joinB (x :: r) (⟨#[32]⟩ : ByteArray)) = lnB (x :: r) := by
  rw [joinB_ls]
  induction r generalizing x with
  | nil => simp [Lib.join_cons, Lib.joinTail, lnB]
  | cons y r ih =>
    have := ih y
    rw [lnB, ← this]
    simp only [List.map_cons, Lib.join_cons, Lib.joinTail, List.flatten_cons, List.append_assoc, List.cons_append, List.nil_append]
    rfl
theorem wF_run : ∀ (w r cur : List UInt8) (col : Int), (∀ c ∈ w, plainC c) → wF (w ++ r) cur col = wF r (cur ++ w) (col + (w.length : Int))
  | [], r, cur, col, _ => by simp
  | c :: w, r, cur, col, h => by
    have hc := h c List.mem_cons_self
    rw [List.cons_append, wF, if_neg (fun e => e.elim hc.2.1 hc.2.2.2), wF_run w r _ _ (fun c hc => h c (List.mem_cons_of_mem _ hc)), List.append_assoc, List.length_cons, show col + 1 + (w.length : Int) = col + ((w.length + 1 : Nat) : Int) by omega]; rfl
theorem wOf_fst {x : ByteArray} (h : ls x ≠ []) (col : Int) : (wOf (ls x) col).map Prod.fst = [x] := by
  unfold wOf; rw [if_neg h]
  show [(⟨(ls x).toArray⟩ : ByteArray)] = [x]
  rw [show (⟨(ls x).toArray⟩ : ByteArray) = x from ls_inj (ls_mk _)]
theorem wF_words : ∀ (ws : List ByteArray), (∀ x ∈ ws, plainW x) → ∀ col, (wF (lnB ws) [] col).map Prod.fst = ws
  | [], _, col => rfl
  | [x], h, col => by
    have hx := h x List.mem_cons_self
    rw [lnB, ← List.append_nil (ls x), wF_run _ _ _ _ hx.2, List.nil_append, wF, wOf_fst hx.1]
  | x :: y :: r, h, col => by
    have hx := h x List.mem_cons_self
    rw [lnB, wF_run _ _ _ _ hx.2, List.nil_append, wF, if_pos (.inl rfl), List.map_append, wOf_fst hx.1, wF_words (y :: r) (fun z hz => h z (List.mem_cons_of_mem _ hz))]; rfl
theorem lnB_plain : ∀ (ws : List ByteArray), (∀ x ∈ ws, plainW x) → ∀ c ∈ lnB ws, c ≠ 10 ∧ c ≠ 35
  | [], _, c, hc => by cases hc
  | [x], h, c, hc => ⟨((h x List.mem_cons_self).2 c hc).1, ((h x List.mem_cons_self).2 c hc).2.2.1⟩
  | x :: y :: r, h, c, hc => by
    rw [lnB] at hc
    rcases List.mem_append.1 hc with hc | hc
    · exact ⟨((h x List.mem_cons_self).2 c hc).1, ((h x List.mem_cons_self).2 c hc).2.2.1⟩
    · rcases List.mem_cons.1 hc with rfl | hc
      · exact ⟨by decide, by decide⟩
      · exact lnB_plain (y :: r) (fun z hz => h z (List.mem_cons_of_mem _ hz)) c hc
theorem before_all (c : UInt8) : ∀ l : List UInt8, (∀ x ∈ l, x ≠ c) → beforeL c l = l
  | [], _ => rfl
  | x :: l, h => by rw [before_cons, if_neg (h x List.mem_cons_self), before_all c l (fun y hy => h y (List.mem_cons_of_mem _ hy))]
theorem wds_words {ws : List ByteArray} (h : ∀ x ∈ ws, plainW x) : (wdsL (lnB ws)).map Prod.fst = ws := by
  unfold wdsL; rw [before_all 35 _ (fun c hc => (lnB_plain ws h c hc).2)]; exact wF_words ws h 1
theorem wAt_of {L : List Wd} {ws : List ByteArray} (h : L.map Prod.fst = ws) (k : Nat) : wAt L k = ws.getD k ByteArray.empty := by rw [← h, fst_at]
/-! the lines of a text -/
def textL (ps : List (List UInt8)) : List UInt8 := ps.flatMap (· ++ [10])
theorem split_text : ∀ ps : List (List UInt8), (∀ p ∈ ps, ∀ c ∈ p, c ≠ 10) → splitOn 10 (textL ps) = ps ++ [[]]
  | [], _ => rfl
  | p :: ps, h => by
    have hp := h p List.mem_cons_self
    have e : textL (p :: ps) = p ++ 10 :: textL ps := by show (p ++ [10]) ++ textL ps = _; rw [List.append_assoc]; rfl
    rw [e, split_at 10 _ p.length (by simp) (fun k hk => by rw [List.getD_eq_getElem?_getD, List.getElem?_append_left hk, List.getElem?_eq_getElem hk]; exact hp _ (List.getElem_mem hk)) (by rw [List.getD_eq_getElem?_getD, List.getElem?_append_right (Nat.le_refl _), Nat.sub_self]; rfl), List.take_left, List.drop_append, List.drop_eq_nil_of_le (Nat.le_succ _), List.nil_append, show p.length + 1 - p.length = 1 by omega]
    show p :: splitOn 10 (textL ps) = _
    rw [split_text ps (fun q hq => h q (List.mem_cons_of_mem _ hq))]; rfl
theorem textL_app (a b : List (List UInt8)) : textL (a ++ b) = textL a ++ textL b := List.flatMap_append
def sgLs (f : Frm) : List (List UInt8) := f.gSignals_l.map fun s => lnB (sigW s)
def frLs (f : Frm) : List (List UInt8) := lnB (frmW f) :: sgLs f
theorem frmT_ls (f : Frm) (t : ByteArray) : ls (frmT f t) = ls t ++ textL [lnB (frmW f)] := by
  rw [← frm_words, ls_append, ls_append]; unfold frmW; simp only [List.cons_append]; rw [lnB_join]; simp [textL]
theorem sigT_ls (s : Sig) (t : ByteArray) : ls (sigT s t) = ls t ++ textL [lnB (sigW s)] := by
  rw [← sig_words, ls_append, ls_append]; unfold sigW; rw [lnB_join]; simp [textL]
theorem sgsT_ls (f : Frm) (t : ByteArray) : ∀ n, n ≤ f.gSignals_l.length → ls (sgsT f n t) = ls t ++ textL ((f.gSignals_l.take n).map fun s => lnB (sigW s))
  | 0, _ => by simp [sgsT, textL]
  | n + 1, h => by
    rw [sgsT, sigT_ls, sgsT_ls f t n (by omega), List.take_succ_eq_append_getElem (by omega), List.map_append, textL_app, List.getD_eq_getElem?_getD, List.getElem?_eq_getElem (by omega), List.append_assoc]; rfl
theorem dbT_ls (d : Db) : ∀ n, n ≤ d.gFrames_l.length → ls (dbT d n) = textL ((d.gFrames_l.take n).flatMap frLs)
  | 0, _ => rfl
  | n + 1, h => by
    rw [dbT, sgsT_ls _ _ _ (Nat.le_refl _), frmT_ls, dbT_ls d n (by omega), List.take_succ_eq_append_getElem (by omega), List.flatMap_append, textL_app, List.getD_eq_getElem?_getD, List.getElem?_eq_getElem (by omega), List.take_length, List.append_assoc, ← textL_app]
    simp [frLs, sgLs]
/-! such lines have no error -/
def frOK (f : Frm) : Prop := nameB f.gName = true ∧ (-1099511627776 ≤ f.gID ∧ f.gID ≤ 1099511627776) ∧ (-1099511627776 ≤ f.gLength ∧ f.gLength ≤ 1099511627776)
def sgOK (s : Sig) : Prop := nameB s.gName = true ∧ (-1099511627776 ≤ s.gStart ∧ s.gStart ≤ 1099511627776) ∧ (-1099511627776 ≤ s.gLength ∧ s.gLength ≤ 1099511627776) ∧ (-1099511627776 ≤ s.gNum ∧ s.gNum ≤ 1099511627776) ∧ (-1099511627776 ≤ s.gOff ∧ s.gOff ≤ 1099511627776) ∧ (-1099511627776 ≤ s.gDen ∧ s.gDen ≤ 1099511627776) ∧ (-1099511627776 ≤ s.gLow ∧ s.gLow ≤ 1099511627776) ∧ (-1099511627776 ≤ s.gHigh ∧ s.gHigh ≤ 1099511627776)
theorem W_plain : plainW WFr ∧ plainW WSg ∧ plainW WGd ∧ plainW WMo ∧ plainW WIn ∧ plainW WSi ∧ plainW WUn := by
  unfold plainW plainC; decide
theorem frmW_plain {f : Frm} (h : frOK f) : ∀ x ∈ frmW f, plainW x := by
  obtain ⟨p0, p1, p2, _⟩ := W_plain
  have hn := name_plain h.1
  unfold frmW
  cases f.gGuarded with
  | true => simp only [if_true, List.cons_append, List.nil_append, List.forall_mem_cons]; exact ⟨p0, hn, itoa_plain _, itoa_plain _, p2, fun x hx => by cases hx⟩
  | false => simp only [Bool.false_eq_true, if_false, List.append_nil, List.forall_mem_cons]; exact ⟨p0, hn, itoa_plain _, itoa_plain _, fun x hx => by cases hx⟩
theorem sigW_plain {s : Sig} (h : sgOK s) : ∀ x ∈ sigW s, plainW x := by
  obtain ⟨p0, p1, p2, p3, p4, p5, p6⟩ := W_plain
  have hn := name_plain h.1
  unfold sigW
  have hm : plainW (if s.gMotorola then (⟨#[109, 111, 116, 111, 114, 111, 108, 97]⟩ : ByteArray) else (⟨#[105, 110, 116, 101, 108]⟩ : ByteArray)) := by cases s.gMotorola; exact p4; exact p3
  have hs : plainW (if s.gSigned then (⟨#[115, 105, 103, 110, 101, 100]⟩ : ByteArray) else (⟨#[117, 110, 115, 105, 103, 110, 101, 100]⟩ : ByteArray)) := by cases s.gSigned; exact p6; exact p5
  simp only [List.forall_mem_cons]
  exact ⟨p1, hn, itoa_plain _, itoa_plain _, hm, hs, itoa_plain _, itoa_plain _, itoa_plain _, itoa_plain _, itoa_plain _, fun x hx => by cases hx⟩
theorem eqT_refl (a : ByteArray) : eqT a a = true := beq_self_eq_true _
theorem line_fr {f : Frm} (h : frOK f) {L : List Wd} (hL : L.map Prod.fst = frmW f) (b : Bool) (e : Int) : lineE b L e = none ∧ eqT (wAt L 0) WFr = true ∧ frmL L = ⟨f.gName, f.gID, f.gLength, f.gGuarded, none, 0, 0, []⟩ := by
  have w := wAt_of hL
  have hlen : L.length = (frmW f).length := by rw [← hL, List.length_map]
  have w0 : wAt L 0 = WFr := w 0
  have w1 : wAt L 1 = f.gName := w 1
  have w2 : wAt L 2 = itoaB f.gID := w 2
  have w3 : wAt L 3 = itoaB f.gLength := w 3
  have hF : eqT (wAt L 0) WFr = true := by rw [w0]; exact eqT_refl _
  have h4 : 4 ≤ L.length := by rw [hlen]; unfold frmW; simp
  have r1 : rdS ksF 1 (L.drop 1) e = rdS [1, 1, 2] 1 (L.drop 2) e := rd_ok rfl (by omega) rfl
  have r2 : rdS ksF 1 (L.drop 1) e = rdS [1, 2] 1 (L.drop 3) e := rd_ok r1 (by omega) (by rw [w2]; exact num_itoa h.2.1)
  have r3 : rdS ksF 1 (L.drop 1) e = rdS [2] 1 (L.drop 4) e := rd_ok r2 (by omega) (by rw [w3]; exact num_itoa h.2.2)
  refine ⟨?_, hF, ?_⟩
  · rw [line_frame hF]
    cases hg : f.gGuarded with
    | true =>
      have w4 : wAt L 4 = WGd := by rw [w 4]; unfold frmW; rw [hg]; rfl
      have h5 : L.length = 5 := by rw [hlen]; unfold frmW; rw [hg]; rfl
      have r4 : rdS ksF 1 (L.drop 1) e = rdS [] 1 (L.drop 5) e := rd_ok r3 (by omega) (by rw [w4]; exact eqT_refl _)
      exact rd_end r4 (by omega) (by decide)
    | false =>
      have h5 : L.length = 4 := by rw [hlen]; unfold frmW; rw [hg]; rfl
      exact rd_end r3 (by omega) (by decide)
  · have hi := (par_itoa (n := f.gID) (by have := h.2.1; omega)).2
    have hl := (par_itoa (n := f.gLength) (by have := h.2.2; omega)).2
    unfold frmL; rw [w1, w2, w3, hi, hl]
    congr 1
    rw [hlen]; unfold frmW; cases f.gGuarded <;> rfl
theorem eq_tab : eqT WSg WFr = false ∧ eqT WIn WMo = false ∧ eqT WUn WSi = false := by decide +kernel
theorem line_sg {s : Sig} (h : sgOK s) {L : List Wd} (hL : L.map Prod.fst = sigW s) (e : Int) : lineE true L e = none ∧ eqT (wAt L 0) WFr = false ∧ sigL L = s := by
  have w := wAt_of hL
  have hlen : L.length = 11 := by rw [← List.length_map (f := Prod.fst), hL]; rfl
  obtain ⟨h0, h1, h2, h3, h4, h5, h6, h7⟩ := h
  have w0 : wAt L 0 = WSg := w 0
  have w1 : wAt L 1 = s.gName := w 1
  have w2 : wAt L 2 = itoaB s.gStart := w 2
  have w3 : wAt L 3 = itoaB s.gLength := w 3
  have w4 : wAt L 4 = (if s.gMotorola then WMo else WIn) := w 4
  have w5 : wAt L 5 = (if s.gSigned then WSi else WUn) := w 5
  have w6 : wAt L 6 = itoaB s.gNum := w 6
  have w7 : wAt L 7 = itoaB s.gOff := w 7
  have w8 : wAt L 8 = itoaB s.gDen := w 8
  have w9 : wAt L 9 = itoaB s.gLow := w 9
  have w10 : wAt L 10 = itoaB s.gHigh := w 10
  have hF : eqT (wAt L 0) WFr = false := by rw [w0]; exact eq_tab.1
  have hS : eqT (wAt L 0) WSg = true := by rw [w0]; exact eqT_refl _
  have r1 : rdS ksS 0 (L.drop 1) e = rdS [1, 1, 3, 4, 1, 1, 1, 1, 1] 0 (L.drop 2) e := rd_ok rfl (by omega) rfl
  have r2 : rdS ksS 0 (L.drop 1) e = rdS [1, 3, 4, 1, 1, 1, 1, 1] 0 (L.drop 3) e := rd_ok r1 (by omega) (by rw [w2]; exact num_itoa h1)
  have r3 : rdS ksS 0 (L.drop 1) e = rdS [3, 4, 1, 1, 1, 1, 1] 0 (L.drop 4) e := rd_ok r2 (by omega) (by rw [w3]; exact num_itoa h2)
  have r4 : rdS ksS 0 (L.drop 1) e = rdS [4, 1, 1, 1, 1, 1] 0 (L.drop 5) e := rd_ok r3 (by omega) (by rw [w4]; cases s.gMotorola; exact (show (eqT WIn WMo || eqT WIn WIn) = true by rw [eqT_refl, Bool.or_true]); exact (show (eqT WMo WMo || eqT WMo WIn) = true by rw [eqT_refl]; rfl))
  have r5 : rdS ksS 0 (L.drop 1) e = rdS [1, 1, 1, 1, 1] 0 (L.drop 6) e := rd_ok r4 (by omega) (by rw [w5]; cases s.gSigned; exact (show (eqT WUn WSi || eqT WUn WUn) = true by rw [eqT_refl, Bool.or_true]); exact (show (eqT WSi WSi || eqT WSi WUn) = true by rw [eqT_refl]; rfl))
  have r6 : rdS ksS 0 (L.drop 1) e = rdS [1, 1, 1, 1] 0 (L.drop 7) e := rd_ok r5 (by omega) (by rw [w6]; exact num_itoa h3)
  have r7 : rdS ksS 0 (L.drop 1) e = rdS [1, 1, 1] 0 (L.drop 8) e := rd_ok r6 (by omega) (by rw [w7]; exact num_itoa h4)
  have r8 : rdS ksS 0 (L.drop 1) e = rdS [1, 1] 0 (L.drop 9) e := rd_ok r7 (by omega) (by rw [w8]; exact num_itoa h5)
  have r9 : rdS ksS 0 (L.drop 1) e = rdS [1] 0 (L.drop 10) e := rd_ok r8 (by omega) (by rw [w9]; exact num_itoa h6)
  have r10 : rdS ksS 0 (L.drop 1) e = rdS [] 0 (L.drop 11) e := rd_ok r9 (by omega) (by rw [w10]; exact num_itoa h7)
  refine ⟨by rw [line_sig hF hS rfl]; exact rd_end r10 (by omega) (by decide), hF, ?_⟩
  have p := fun (n : Int) (h : -1099511627776 ≤ n ∧ n ≤ 1099511627776) => (par_itoa (n := n) (by omega)).2
  unfold sigL; rw [w1, w2, w3, w4, w5, w6, w7, w8, w9, w10, p _ h1, p _ h2, p _ h3, p _ h4, p _ h5, p _ h6, p _ h7]
  obtain ⟨n, a, b, mo, sg, c, d, e, f, g⟩ := s
  congr 1
  · cases mo; exact eq_tab.2.1; exact eqT_refl _
  · cases sg; exact eq_tab.2.2; exact eqT_refl _
theorem wds_ne {ws : List ByteArray} (h : ∀ x ∈ ws, plainW x) (hn : ws ≠ []) : wdsL (lnB ws) ≠ [] := fun e => hn (by rw [← wds_words h, e]; rfl)
theorem par_sigs : ∀ (ss : List Sig) (ps : List (List UInt8)) (ln : Int) (out : List Frm) (f : Frm), f.gSignals_a = none → f.gSignals_c = 0 → f.gSignals_n = f.gSignals_l.length → (∀ s ∈ ss, sgOK s) →
    parP ((ss.map fun s => lnB (sigW s)) ++ ps) ln (out ++ [f]) = parP ps (ln + (ss.length : Int)) (out ++ [{ f with gSignals_n := f.gSignals_l.length + ss.length, gSignals_l := f.gSignals_l ++ ss }])
  | [], ps, ln, out, f, ha, hc, hn, _ => by
    obtain ⟨n, i, l, g, a, k, c, s⟩ := f
    simp only at ha hc hn; subst ha hc hn; simp
  | s :: ss, ps, ln, out, f, ha, hc, hn, h => by
    have hs := h s List.mem_cons_self
    have hp := sigW_plain hs
    obtain ⟨e1, e2, e3⟩ := line_sg hs (wds_words hp) (((lnB (sigW s)).length : Int) + 1)
    have ih := par_sigs ss ps (ln + 1) out { f with gSignals_n := f.gSignals_l.length + 1, gSignals_l := f.gSignals_l ++ [s] } ha hc (by simp) (fun x hx => h x (List.mem_cons_of_mem _ hx))
    rw [List.map_cons, List.cons_append, parP, if_neg (wds_ne hp (by unfold sigW; simp)), show (!(out ++ [f]).isEmpty) = true by cases out <;> rfl, e1]
    show parP _ (ln + 1) (addL (out ++ [f]) _) = _
    have ea : addL (out ++ [f]) (wdsL (lnB (sigW s))) = out ++ [{ f with gSignals_n := f.gSignals_l.length + 1, gSignals_l := f.gSignals_l ++ [s] }] := by
      unfold addL; rw [if_neg (by rw [e2]; decide), e3, List.dropLast_concat, List.getD_eq_getElem?_getD, List.length_append, List.length_singleton, List.getElem?_append_right (by omega), show out.length + 1 - 1 - out.length = 0 by omega]
      unfold addSg; rw [show ([f][0]?.getD frm0) = f from rfl]
      congr 2
      obtain ⟨n, i, l, g, a, k, c, s⟩ := f
      simp only at ha hc; subst ha hc; rfl
    rw [ea, ih, List.length_cons, show ln + 1 + (ss.length : Int) = ln + ((ss.length + 1 : Nat) : Int) by omega]
    congr 3
    simp [Nat.add_assoc, Nat.add_comm 1]
theorem par_frms : ∀ (fs : List Frm) (ps : List (List UInt8)) (ln : Int) (out : List Frm), (∀ f ∈ fs, frOK f ∧ ∀ s ∈ f.gSignals_l, sgOK s) → ∃ ln', parP (fs.flatMap frLs ++ ps) ln out = parP ps ln' (out ++ fs.map clF)
  | [], ps, ln, out, _ => ⟨ln, by simp⟩
  | f :: fs, ps, ln, out, h => by
    obtain ⟨hf, hs⟩ := h f List.mem_cons_self
    have hp := frmW_plain hf
    obtain ⟨e1, e2, e3⟩ := line_fr hf (wds_words hp) (!out.isEmpty) (((lnB (frmW f)).length : Int) + 1)
    obtain ⟨ln', ih⟩ := par_frms fs ps (ln + 1 + (f.gSignals_l.length : Int)) (out ++ [clF f]) (fun x hx => h x (List.mem_cons_of_mem _ hx))
    refine ⟨ln', ?_⟩
    rw [List.flatMap_cons, frLs, List.cons_append, List.cons_append, parP, if_neg (wds_ne hp (by unfold frmW; simp)), e1]
    show parP _ (ln + 1) (addL out _) = _
    have ea : addL out (wdsL (lnB (frmW f))) = out ++ [⟨f.gName, f.gID, f.gLength, f.gGuarded, none, 0, 0, []⟩] := by unfold addL; rw [if_pos e2, e3]
    rw [ea, sgLs, List.append_assoc, par_sigs _ _ _ _ _ rfl rfl rfl hs]
    show parP _ _ (out ++ [⟨f.gName, f.gID, f.gLength, f.gGuarded, none, 0 + f.gSignals_l.length, 0, [] ++ f.gSignals_l⟩]) = _
    rw [List.nil_append, Nat.zero_add]
    show parP _ _ (out ++ [clF f]) = _
    rw [ih, List.map_cons, List.append_assoc]; rfl
theorem par_own {d : Db} (h : ∀ f ∈ d.gFrames_l, frOK f ∧ ∀ s ∈ f.gSignals_l, sgOK s) (hz : (dbT d d.gFrames_l.length).size ≤ 16384) : parsF (dbT d d.gFrames_l.length) = finP (d.gFrames_l.map clF) := by
  unfold parsF; rw [if_neg (by omega), dbT_ls d _ (Nat.le_refl _), List.take_length, split_text]
  · obtain ⟨ln', e⟩ := par_frms d.gFrames_l [[]] 1 [] h
    rw [e, parP, if_pos (by decide), List.nil_append]; rfl
  · intro p hp c hc
    obtain ⟨f, hf, hp⟩ := List.mem_flatMap.1 hp
    obtain ⟨h1, h2⟩ := h f hf
    rcases List.mem_cons.1 hp with rfl | hp
    · exact (lnB_plain _ (frmW_plain h1) c hc).1
    · obtain ⟨s, hs, rfl⟩ := List.mem_map.1 hp
      exact (lnB_plain _ (sigW_plain (h2 s hs)) c hc).1
/-! what is valid can be written -/
theorem sgOK_of {s : Sig} (h : sigOK s = true) : sgOK s := by
  unfold sigOK sigB inB at h
  simp only [Bool.and_eq_true, decide_eq_true_eq] at h
  obtain ⟨⟨⟨⟨⟨⟨⟨⟨hn, h1⟩, h2⟩, h3⟩, h4⟩, h5⟩, h6⟩, h7⟩, h8⟩ := h
  have hp := pow32 (n := s.gLength.toNat) (by omega)
  have hp2 := pow32 (n := (s.gLength - 1).toNat) (by omega)
  have hlo : -4294967296 ≤ lowF s.gLength s.gSigned := by unfold lowF; split <;> omega
  have hhi : highF s.gLength s.gSigned ≤ 4294967296 := by unfold highF; split <;> omega
  exact ⟨hn, by omega, by omega, by omega, by omega, by omega, by omega, by omega⟩
theorem db_good {d : Db} (hf : (faultF d).2 = 0) : ∀ f ∈ d.gFrames_l, frOK f ∧ ∀ s ∈ f.gSignals_l, sgOK s := by
  intro f hm
  have hall := fault_zero hf
  obtain ⟨i, hi, rfl⟩ := List.mem_iff_getElem.1 hm
  obtain ⟨hh0, hh3⟩ := hall i hi
  have ef : d.gFrames_l.getD i frm0 = d.gFrames_l[i] := by rw [List.getD_eq_getElem?_getD, List.getElem?_eq_getElem hi]; rfl
  rw [ef] at hh3
  have hd : nameB (d.gFrames_l[i]).gName = true ∧ hdBad (d.gFrames_l[i]) = false := by
    unfold headErr at hh0; rw [ef] at hh0
    split at hh0
    · omega
    rename_i h1
    split at hh0
    · omega
    rename_i h2
    exact ⟨by simpa using h1, by simpa using h2⟩
  refine ⟨⟨hd.1, ?_, ?_⟩, fun s hs => ?_⟩
  · have := hd.2; unfold hdBad at this; simp [inB] at this; omega
  · have := hd.2; unfold hdBad at this; simp [inB] at this; omega
  · obtain ⟨j, hj, rfl⟩ := List.mem_iff_getElem.1 hs
    have h := (sig_zero (hh3 j hj)).1
    rw [List.getD_eq_getElem?_getD, List.getElem?_eq_getElem hj] at h
    exact sgOK_of h
theorem fault_cld {d : Db} (hn : d.gFrames_n = d.gFrames_l.length) (h : ∀ x ∈ d.gFrames_l, okF x) : faultF d = faultF (dbOf (d.gFrames_l.map clF)) := by
  obtain ⟨a, n, c, l⟩ := d
  simp only at hn; subst hn
  exact fault_cl h a c
theorem okF_Q {w : World} {x : Frm} (h : frmQ w x) : okF x := ⟨h.2.2.2.2.1.len_eq.symm, h.1, h.2.1, h.2.2.1, fun y hy _ => h.2.2.2.2.2.1 y hy⟩
theorem par_back {d : Db} (hn : d.gFrames_n = d.gFrames_l.length) (h : ∀ x ∈ d.gFrames_l, okF x) (hf : (faultF d).2 = 0) (hz : (dbT d d.gFrames_l.length).size ≤ 16384) : parsF (dbT d d.gFrames_l.length) = ⟨d.gFrames_l.map clF, 0, 0, 0⟩ := by
  rw [par_own (db_good hf) hz, finP, if_pos (by rw [← fault_cld hn h]; exact hf)]
/-! what is parsed -/
theorem rd_num : ∀ (ks : List Nat) (opt : Nat) (L : List Wd) (e : Int) (x : Int × Int), rdS ks opt L e = some x → x.2 ≠ 0
  | [], _, [], _, x, h => by cases h
  | [], _, y :: _, _, x, h => by cases h; exact (show (3 : Int) ≠ 0 by decide)
  | k :: ks, opt, [], e, x, h => by
    rw [rdS] at h; split at h
    · cases h
    · cases h; exact (show (4 : Int) ≠ 0 by decide)
  | k :: ks, opt, y :: L, e, x, h => by
    rw [rdS] at h; split at h
    · exact rd_num ks opt L e x h
    · cases h; exact (show (3 : Int) ≠ 0 by decide)
theorem line_num {b : Bool} {L : List Wd} {e : Int} {x : Int × Int} (h : lineE b L e = some x) : x.2 ≠ 0 := by
  unfold lineE at h; split at h
  · exact rd_num _ _ _ _ _ h
  · split at h
    · exact rd_num _ _ _ _ _ h
    · cases h; exact (show (3 : Int) ≠ 0 by decide)
theorem parP_good : ∀ (ps : List (List UInt8)) (ln : Int) (out : List Frm), ((parP ps ln out).e = 0 → (faultF (dbOf (parP ps ln out).l)).2 = 0) ∧ ((parP ps ln out).e ≠ 0 → (parP ps ln out).l = [])
  | [], ln, out => by
    show ((finP out).e = 0 → (faultF (dbOf (finP out).l)).2 = 0) ∧ ((finP out).e ≠ 0 → (finP out).l = [])
    unfold finP; split
    · rename_i h; exact ⟨fun _ => h, fun h => absurd rfl h⟩
    · rename_i h; exact ⟨fun h2 => absurd h2 h, fun _ => rfl⟩
  | p :: ps, ln, out => by
    rw [parP]; split
    · exact parP_good ps _ _
    · cases hl : lineE (!out.isEmpty) (wdsL p) ((p.length : Int) + 1) with
      | none => exact parP_good ps _ _
      | some x => exact ⟨fun h => absurd h (line_num hl), fun _ => rfl⟩
theorem parsF_good (s : ByteArray) : ((parsF s).e = 0 → (faultF (dbOf (parsF s).l)).2 = 0) ∧ ((parsF s).e ≠ 0 → (parsF s).l = []) := by
  unfold parsF; split
  · exact ⟨fun h => absurd h (show ¬ (5 : Int) = 0 by decide), fun _ => rfl⟩
  · exact parP_good _ _ _
theorem tx_zero {d : Db} (h : txE d = 0) : (faultF d).2 = 0 ∧ (dbT d d.gFrames_l.length).size ≤ 16384 ∧ txS d = dbT d d.gFrames_l.length := by
  unfold txE at h
  split at h
  · rename_i h1
    split at h
    · rename_i h2; exact ⟨h1, h2, (tx_good h1 h2).1⟩
    · cases h
  · cases h
theorem tx_one {d : Db} (h : ¬ txE d = 0) : (txS d).size = 0 ∧ (txE d = 1 → ¬ (faultF d).2 = 0) ∧ ((faultF d).2 = 0 → txE d = 5) := by
  by_cases h1 : (faultF d).2 = 0
  · by_cases h2 : (dbT d d.gFrames_l.length).size ≤ 16384
    · exact absurd (tx_good h1 h2).2 h
    · obtain ⟨e1, e2⟩ := tx_full h1 h2
      exact ⟨by rw [e1]; rfl, fun h3 => by omega, fun _ => e2⟩
  · obtain ⟨e1, e2⟩ := tx_bad h1
    exact ⟨by rw [e1]; rfl, fun _ => h1, fun h3 => absurd h3 h1⟩
theorem back_own {w : World} {d : Db} (hd : dbQ w d) (h : txE d = 0) : parsF (txS d) = ⟨d.gFrames_l.map clF, 0, 0, 0⟩ := by
  obtain ⟨h1, h2, h3⟩ := tx_zero h
  rw [h3]; exact par_back hd.2.1.len_eq.symm (fun x hx => okF_Q (hd.2.2.1 x hx)) h1 h2
section
variable {s : ByteArray} {out : List Frm} {a : Option Addr} {c : Nat}
theorem parsed_fault (hy : out.map clF = (parsF s).l) (hk : ∀ x ∈ out, okF x) (he : (parsF s).e = 0) : (faultF (⟨a, out.length, c, out⟩ : Db)).2 = 0 := by
  rw [fault_cl hk, hy]; exact (parsF_good s).1 he
theorem parsed_none (hy : out.map clF = (parsF s).l) (he : ¬ (parsF s).e = 0) : out.length = 0 := by
  have := congrArg List.length hy
  rw [(parsF_good s).2 he] at this; simpa using this
theorem back_again (hk : ∀ x ∈ out, okF x) (h : txE (⟨a, out.length, c, out⟩ : Db) = 0) : parsF (txS (⟨a, out.length, c, out⟩ : Db)) = ⟨out.map clF, 0, 0, 0⟩ := by
  obtain ⟨h1, h2, h3⟩ := tx_zero h
  rw [h3]; exact par_back rfl hk h1 h2
end
theorem tx_size {d : Db} (h : txE d = 0) : (txS d).size ≤ 16384 := by rw [(tx_zero h).2.2]; exact (tx_zero h).2.1

end Go.Proofs.YthiklimfffhbaaaDoor

