/- Walks of functions of this seat, printed by a program over the engine. Conditions: as each theorem says. -/
import Derived.Test.YthiklimfffhbaaaDoorZbP13
import Derived.Test.YthiklimfffhbaaaDoorZbEng13
namespace Go.Proofs.YthiklimfffhbaaaDoor
noncomputable section
open Go.Eng Go.RowKit
set_option linter.unusedSimpArgs false
set_option linter.unusedVariables false
theorem hb56 : HasBody Tryd.prog 56 := fun _ _ => by kernel_rfl
def K56_0 := adv 5 [] (bodyOf Tryd.f56)
def K56_1 := adv 6 [true] (popK K56_0)
def K56_2 := adv 2 [] (popK (popK (popK K56_1)))
def K56_3 := adv 1 [] (popK K56_2)
set_option maxRecDepth 20000 in
set_option maxHeartbeats 20000000 in
theorem cc_nil (b : Nat) (a : Option Addr) (n c : Nat) (w0 : World) (L0 : List Eng.Claim) (w : World) (S0 : Sep w0 (box b [.pointer none, .slice a n c] 68 :: L0) w) : Ret Tryd.prog 56 #[.pointer (some ⟨b, 0, none⟩)] w (fun v w' => v = .tuple #[] ∧ Sep w0 (box b [.pointer (some ⟨b, 0, none⟩), .slice a n c] 68 :: L0) w') := by
 refine Ret.named fun R hR => ?_
 refine Ret.of_J (N := 20) [(0, .pointer (some ⟨b, 0, none⟩))] Tryd.func56 rfl rfl (Nat.le_of_ble_eq_true (by kernel_rfl)) (by kernel_rfl) ?_
 refine J.run 5 K56_0 [(4, .pointer (some ⟨b, 0, none⟩)), (0, .pointer (some ⟨b, 0, none⟩))] w (by kernel_rfl) ?_
 refine J.ok (OK.ldBox S0 0 5 65 0 (.pointer none) (by kernel_rfl) rfl (by kernel_rfl)) ?_
 refine J.run 6 K56_1 [(8, .pointer (some ⟨b, 0, none⟩)), (7, .pointer (some ⟨b, 0, none⟩))] w (by kernel_rfl) ?_
 refine J.ok (OK.toUnsafe S0 0 9 65 119 68 rfl (by kernel_rfl) (by kernel_rfl) (by kernel_rfl) (by kernel_rfl) (Nat.succ_pos _)) ?_
 refine J.ok (OK.run 10 (.pointer (some ⟨b, 0, none⟩)) (by kernel_rfl)) ?_
 refine J.ok (OK.fromUnsafe S0 0 11 119 65 68 rfl (by kernel_rfl) (by kernel_rfl) (by kernel_rfl) (by kernel_rfl) (by kernel_rfl)) ?_
 refine J.run 2 K56_2 [(13, .pointer (some ⟨b, 0, none⟩)), (11, .pointer (some ⟨b, 0, none⟩))] w (by kernel_rfl) ?_
 refine J.stBox S0 0 65 0 (.pointer (some ⟨b, 0, none⟩)) [.pointer (some ⟨b, 0, none⟩), .slice a n c] (box b [.pointer (some ⟨b, 0, none⟩), .slice a n c] 68 :: L0) (by kernel_rfl) rfl (by kernel_rfl) (by kernel_rfl) rfl ?_
 intro w1 S1
 refine J.run 1 K56_3 [] w1 (by kernel_rfl) ?_
 refine J.done Tryd.f56 [] Tryd.func56 trivial ?_
 refine hR _ _ ?_
 exact ⟨rfl, S1⟩

def K56a_0 := adv 5 [] (bodyOf Tryd.f56)
def K56a_1 := adv 8 [false] (popK K56a_0)
def K56a_2 := adv 1 [] (popK K56a_1)
def K56a_3 := adv 3 [false] (popK K56a_2)
set_option maxRecDepth 20000 in
set_option maxHeartbeats 20000000 in
theorem cc_self (b : Nat) (a : Option Addr) (n c : Nat) (w0 : World) (L0 : List Eng.Claim) (w : World) (S0 : Sep w0 (box b [.pointer (some ⟨b, 0, none⟩), .slice a n c] 68 :: L0) w) : Ret Tryd.prog 56 #[.pointer (some ⟨b, 0, none⟩)] w (fun v w' => v = .tuple #[] ∧ Sep w0 (box b [.pointer (some ⟨b, 0, none⟩), .slice a n c] 68 :: L0) w') := by
 refine Ret.named fun R hR => ?_
 refine Ret.of_J (N := 20) [(0, .pointer (some ⟨b, 0, none⟩))] Tryd.func56 rfl rfl (Nat.le_of_ble_eq_true (by kernel_rfl)) (by kernel_rfl) ?_
 refine J.run 5 K56a_0 [(4, .pointer (some ⟨b, 0, none⟩)), (0, .pointer (some ⟨b, 0, none⟩))] w (by kernel_rfl) ?_
 refine J.ok (OK.ldBox S0 0 5 65 0 (.pointer (some ⟨b, 0, none⟩)) (by kernel_rfl) rfl (by kernel_rfl)) ?_
 refine J.run 8 K56a_1 [(16, .pointer (some ⟨b, 0, none⟩)), (0, .pointer (some ⟨b, 0, none⟩))] w (by kernel_rfl) ?_
 refine J.ok (OK.ldBox S0 0 17 65 0 (.pointer (some ⟨b, 0, none⟩)) (by kernel_rfl) rfl (by kernel_rfl)) ?_
 refine J.run 1 K56a_2 [(18, .pointer (some ⟨b, 0, none⟩)), (17, .pointer (some ⟨b, 0, none⟩))] w (by kernel_rfl) ?_
 refine J.ok (OK.neqSame 19 65 68 ⟨b, 0, none⟩ (by kernel_rfl) (by kernel_rfl) (by kernel_rfl) (by kernel_rfl)) ?_
 refine J.run 3 K56a_3 [] w (by kernel_rfl) ?_
 refine J.done Tryd.f56 [] Tryd.func56 trivial ?_
 refine hR _ _ ?_
 exact ⟨rfl, S0⟩

theorem copycheck_any (b : Nat) (p : Option Addr) (a : Option Addr) (n c : Nat) (w0 : World) (L0 : List Eng.Claim) (w : World) (S0 : Sep w0 (box b [.pointer p, .slice a n c] 68 :: L0) w) (hp : p = none ∨ p = some ⟨b, 0, none⟩) : Ret Tryd.prog 56 #[.pointer (some ⟨b, 0, none⟩)] w (fun v w' => v = .tuple #[] ∧ Sep w0 (box b [.pointer (some ⟨b, 0, none⟩), .slice a n c] 68 :: L0) w') := by
  rcases hp with rfl | rfl
  · exact cc_nil b a n c w0 L0 w S0
  · exact cc_self b a n c w0 L0 w S0
theorem hb30 : HasBody Tryd.prog 30 := fun _ _ => by kernel_rfl
def K30_0 := adv 8 [] (bodyOf Tryd.f30)
def K30_1 := adv 7 [] (popK K30_0)
def K30_2 := adv 1 [] (popK K30_1)
def K30_3 := adv 2 [] (popK K30_2)
def K30_4 := adv 8 [] (popK K30_3)
set_option maxRecDepth 20000 in
set_option maxHeartbeats 20000000 in
theorem bwrite_any (b : Nat) (p : Option Addr) (a : Option Addr) (c : Nat) (x s : ByteArray) (w0 : World) (L0 : List Eng.Claim) (w : World) (S0 : Sep w0 (box b [.pointer p, .slice a ((ls x).length) c] 68 :: rowOf enc8 a c 5 1 (ls x) :: L0) w) (hp : p = none ∨ p = some ⟨b, 0, none⟩) (hx : x.size + s.size ≤ 140737488355328) : Ret Tryd.prog 30 #[.pointer (some ⟨b, 0, none⟩), .string s] w (fun v w' => v = .tuple #[iv (s.size : Int), .nilIface] ∧ ∃ a' c', Sep w0 (box b [.pointer (some ⟨b, 0, none⟩), .slice a' (ls (x ++ s)).length c'] 68 :: rowOf enc8 a' c' 5 1 (ls (x ++ s)) :: L0) w') := by
 refine Ret.named fun R hR => ?_
 refine Ret.of_J (N := 19) [(0, .pointer (some ⟨b, 0, none⟩)), (1, .string s)] Tryd.func30 rfl rfl (Nat.le_of_ble_eq_true (by kernel_rfl)) (by kernel_rfl) ?_
 have hlx := ls_length x
 refine J.run 8 K30_0 [(6, .pointer (some ⟨b, 0, none⟩)), (0, .pointer (some ⟨b, 0, none⟩)), (1, .string s)] w (by kernel_rfl) ?_
 have S1 : Sep w0 (box b [.pointer p, .slice a ((ls x).length) c] 68 :: rowOf enc8 a c 5 1 (ls x) :: L0) w := S0.front 0 rfl
 refine J.callF 7 56 #[.pointer (some ⟨b, 0, none⟩)] hb56 (by kernel_rfl) (copycheck_any b p a ((ls x).length) c _ _ _ S1 (by first | assumption | exact .inl rfl | exact .inr rfl)) ?_
 rintro _ w1 ⟨rfl, S2⟩
 replace S2 : Sep w0 (box b [.pointer (some ⟨b, 0, none⟩), .slice a ((ls x).length) c] 68 :: rowOf enc8 a c 5 1 (ls x) :: L0) w1 := S2
 refine J.run 7 K30_1 [(11, .pointer (some ⟨b, 1, none⟩)), (8, .pointer (some ⟨b, 0, none⟩)), (1, .string s)] w1 (by kernel_rfl) ?_
 refine J.ok (OK.ldBox S2 0 12 66 1 (.slice a ((ls x).length) c) (by kernel_rfl) rfl (by kernel_rfl)) ?_
 refine J.run 1 K30_2 [(13, .string s), (12, .slice a ((ls x).length) c), (8, .pointer (some ⟨b, 0, none⟩)), (1, .string s)] w1 (by kernel_rfl) ?_
 refine J.appStr S2 1 x s 14 66 9 rfl (by kernel_rfl) (by kernel_rfl) (by kernel_rfl) (by rfl) (by first | omega | (simp only [ByteArray.size_append]; omega) | (simp only [ByteArray.size_append, lit_size, List.size_toArray, List.length_cons, List.length_nil]; omega) | (simp; omega)) ?_
 intro ra1 rc1 w2 S3
 replace S3 : Sep w0 (box b [.pointer (some ⟨b, 0, none⟩), .slice a ((ls x).length) c] 68 :: rowOf enc8 ra1 rc1 5 1 (ls (x ++ s)) :: L0) w2 := S3
 refine J.run 2 K30_3 [(16, .pointer (some ⟨b, 1, none⟩)), (14, .slice ra1 ((ls (x ++ s)).length) rc1), (1, .string s)] w2 (by kernel_rfl) ?_
 refine J.stBox S3 0 66 1 (.slice ra1 ((ls (x ++ s)).length) rc1) [.pointer (some ⟨b, 0, none⟩), .slice ra1 ((ls (x ++ s)).length) rc1] (box b [.pointer (some ⟨b, 0, none⟩), .slice ra1 ((ls (x ++ s)).length) rc1] 68 :: rowOf enc8 ra1 rc1 5 1 (ls (x ++ s)) :: L0) (by kernel_rfl) rfl (by kernel_rfl) (by kernel_rfl) rfl ?_
 intro w3 S4
 refine J.run 8 K30_4 [(5, .nilIface), (4, iv (s.size : Int))] w3 (by kernel_rfl) ?_
 refine J.ret Tryd.f30 [iv (s.size : Int), .nilIface] Tryd.func30 ⟨by kernel_rfl, by kernel_rfl, trivial⟩ ?_
 refine hR _ _ ?_
 exact ⟨rfl, _, _, S4⟩

theorem hb33 : HasBody Tryd.prog 33 := fun _ _ => by kernel_rfl
def K33_0 := adv 9 [] (bodyOf Tryd.f33)
def K33_1 := adv 3 [] (popK K33_0)
set_option maxRecDepth 20000 in
set_option maxHeartbeats 20000000 in
theorem blen_any (b : Nat) (p : Option Addr) (a : Option Addr) (c : Nat) (x : ByteArray) (w0 : World) (L0 : List Eng.Claim) (w : World) (S0 : Sep w0 (box b [.pointer p, .slice a ((ls x).length) c] 68 :: rowOf enc8 a c 5 1 (ls x) :: L0) w) (hx : x.size ≤ 9223372036854775807) : Ret Tryd.prog 33 #[.pointer (some ⟨b, 0, none⟩)] w (fun v w' => v = iv (x.size : Int) ∧ Sep w0 (box b [.pointer p, .slice a (ls x).length c] 68 :: rowOf enc8 a c 5 1 (ls x) :: L0) w') := by
 refine Ret.named fun R hR => ?_
 refine Ret.of_J (N := 8) [(0, .pointer (some ⟨b, 0, none⟩))] Tryd.func33 rfl rfl (Nat.le_of_ble_eq_true (by kernel_rfl)) (by kernel_rfl) ?_
 have hlx := ls_length x
 refine J.run 9 K33_0 [(5, .pointer (some ⟨b, 1, none⟩))] w (by kernel_rfl) ?_
 refine J.ok (OK.ldBox S0 0 6 66 1 (.slice a ((ls x).length) c) (by kernel_rfl) rfl (by kernel_rfl)) ?_
 refine J.run 3 K33_1 [(2, iv ((ls x).length : Int))] w (by kernel_rfl) ?_
 refine J.ret Tryd.f33 [iv ((ls x).length : Int)] Tryd.func33 ⟨by kernel_rfl, trivial⟩ ?_
 refine hR _ _ ?_
 exact ⟨by rw [ls_length]; rfl, S0⟩

theorem hb34 : HasBody Tryd.prog 34 := fun _ _ => by kernel_rfl
theorem bstring_any (b : Nat) (p : Option Addr) (a : Option Addr) (c : Nat) (x : ByteArray) (w0 : World) (L0 : List Eng.Claim) (w : World) (S0 : Sep w0 (box b [.pointer p, .slice a (ls x).length c] 68 :: rowOf enc8 a c 5 1 (ls x) :: L0) w) (hp : p = none ∨ p = some ⟨b, 0, none⟩) (ho : Offs 5 L0) : Ret Tryd.prog 34 #[.pointer (some ⟨b, 0, none⟩)] w (fun v w' => v = .string x ∧ Sep w0 L0 w') :=
  Ret.of_calls (Tryd.Builder_String_any_k w0.heap.size b (ls x) w (S0.builder hp) S0.below.size) fun w' h => ⟨congrArg Value.string (ls_inj (ls_mk _)), S0.others rfl ho h.2.1 h.2.2⟩
theorem hb22 : HasBody Tryd.prog 22 := fun _ _ => by kernel_rfl
theorem join_any (la : Option Addr) (len cap : Nat) (l : List ByteArray) (sep : ByteArray) (w : World) (hI : Ones Value.string w la len l) (hp : ∀ p, la = some p → p = ⟨p.block, 0, none⟩) (hcap : len ≤ cap) (hN : len ≤ 140737488355328) (hs : (joinB l sep).size ≤ 140737488355328) :
    Ret Tryd.prog 22 #[.slice la len cap, .string sep] w (fun v w' => v = .string (joinB l sep) ∧ Sep w [] w') := by
  have hll := hI.len_eq
  by_cases h0 : len = 0
  · subst h0
    have hl : l = [] := List.eq_nil_of_length_eq_zero hll
    subst hl
    exact Ret.of_calls (Tryd.strings_Join_none la cap sep w) fun w' e => ⟨rfl, by subst e; exact .refl _⟩
  · obtain ⟨p, rfl, hc⟩ := hI.at ByteArray.empty 0 (by omega)
    have e := hp p rfl
    have hb := World.block_lt_of_cell? _ _ hc
    generalize hbk : p.block = bk at e
    subst e; subst hll
    exact Ret.of_calls (Tryd.strings_Join bk 0 cap l sep w (fun j x hx => by
      obtain ⟨q, hq, hcq⟩ := hI.cells j (Value.string x) (by rw [List.getElem?_map, hx]; rfl)
      cases hq; rw [add_plain] at hcq; exact hcq) hb hN hcap (by have h : (Lib.join (l.map (·.data.toList)) sep.data.toList).toArray.size ≤ 140737488355328 := hs; rw [List.size_toArray] at h; exact h)) fun w' hb => ⟨rfl, .of_below hb⟩
theorem size_app (a b : ByteArray) : (a ++ b).size = a.size + b.size := by rw [← ls_length, ls_append, List.length_append, ls_length, ls_length]
def listN (l : List Int) : Nat → ByteArray
  | 0 => ByteArray.empty
  | n + 1 => (listN l n ++ (⟨#[32]⟩ : ByteArray)) ++ itoaB (l.getD n 0)
def listB (l : List Int) : ByteArray := listN l l.length
/-! the lines of a text -/
def frmT (f : Frm) (t : ByteArray) : ByteArray := (((t ++ (⟨#[102, 114, 97, 109, 101, 32]⟩ : ByteArray)) ++ f.gName) ++ listB [f.gID, f.gLength]) ++ (if f.gGuarded then (⟨#[32, 103, 117, 97, 114, 100, 101, 100]⟩ : ByteArray) else ByteArray.empty) ++ (⟨#[10]⟩ : ByteArray)
def sigT (s : Sig) (t : ByteArray) : ByteArray := (((((t ++ (⟨#[115, 105, 103, 110, 97, 108, 32]⟩ : ByteArray)) ++ s.gName) ++ listB [s.gStart, s.gLength]) ++ (if s.gMotorola then (⟨#[32, 109, 111, 116, 111, 114, 111, 108, 97]⟩ : ByteArray) else (⟨#[32, 105, 110, 116, 101, 108]⟩ : ByteArray))) ++ (if s.gSigned then (⟨#[32, 115, 105, 103, 110, 101, 100]⟩ : ByteArray) else (⟨#[32, 117, 110, 115, 105, 103, 110, 101, 100]⟩ : ByteArray))) ++ listB [s.gNum, s.gOff, s.gDen, s.gLow, s.gHigh] ++ (⟨#[10]⟩ : ByteArray)
def sgsT (f : Frm) : Nat → ByteArray → ByteArray
  | 0, t => t
  | n + 1, t => sigT (f.gSignals_l.getD n sig0) (sgsT f n t)
def dbT (d : Db) : Nat → ByteArray
  | 0 => ByteArray.empty
  | n + 1 => sgsT (d.gFrames_l.getD n frm0) (d.gFrames_l.getD n frm0).gSignals_l.length (frmT (d.gFrames_l.getD n frm0) (dbT d n))
theorem sgs_succ {f : Frm} {t : ByteArray} {j : Int} (h : 0 ≤ j) : sgsT f (j + 1).toNat t = sigT (f.gSignals_l.getD j.toNat sig0) (sgsT f j.toNat t) := by rw [show (j + 1).toNat = j.toNat + 1 by omega]; rfl
theorem db_succ {d : Db} {i : Int} (h : 0 ≤ i) : dbT d (i + 1).toNat = sgsT (d.gFrames_l.getD i.toNat frm0) (d.gFrames_l.getD i.toNat frm0).gSignals_l.length (frmT (d.gFrames_l.getD i.toNat frm0) (dbT d i.toNat)) := by rw [show (i + 1).toNat = i.toNat + 1 by omega]; rfl
def txS (d : Db) : ByteArray := if (faultF d).2 = 0 ∧ (dbT d d.gFrames_l.length).size ≤ 16384 then dbT d d.gFrames_l.length else ByteArray.empty
def txE (d : Db) : Int := if (faultF d).2 = 0 then (if (dbT d d.gFrames_l.length).size ≤ 16384 then 0 else 5) else 1
theorem tx_bad {d : Db} (h : ¬ (faultF d).2 = 0) : txS d = ByteArray.empty ∧ txE d = 1 := ⟨if_neg (fun h2 => h h2.1), if_neg h⟩
theorem tx_full {d : Db} (h : (faultF d).2 = 0) (h2 : ¬ (dbT d d.gFrames_l.length).size ≤ 16384) : txS d = ByteArray.empty ∧ txE d = 5 := ⟨if_neg (fun h3 => h2 h3.2), (if_pos h).trans (if_neg h2)⟩
theorem tx_good {d : Db} (h : (faultF d).2 = 0) (h2 : (dbT d d.gFrames_l.length).size ≤ 16384) : txS d = dbT d d.gFrames_l.length ∧ txE d = 0 := ⟨if_pos ⟨h, h2⟩, (if_pos h).trans (if_pos h2)⟩
theorem name24 {s : ByteArray} (h : nameB s = true) : s.size ≤ 24 := by
  unfold nameB at h
  simp only [Bool.and_eq_true, decide_eq_true_eq] at h
  exact h.1.1.2
theorem sig_name {s : Sig} (h : sigOK s = true) : s.gName.size ≤ 24 := by
  unfold sigOK sigB at h
  simp only [Bool.and_eq_true] at h
  exact name24 h.1.1.1.1.1.1.1.1
theorem frm_facts {d : Db} {k : Nat} (h : headErr d k = 0) : (d.gFrames_l.getD k frm0).gName.size ≤ 24 ∧ (d.gFrames_l.getD k frm0).gSignals_n ≤ 16 := by
  unfold headErr at h
  split at h
  · omega
  rename_i h1
  split at h
  · omega
  split at h
  · omega
  rename_i h3
  exact ⟨name24 (by simpa using h1), by omega⟩
/-! a line out of its words -/
def frmW (f : Frm) : List ByteArray := [(⟨#[102, 114, 97, 109, 101]⟩ : ByteArray), f.gName, itoaB f.gID, itoaB f.gLength] ++ (if f.gGuarded then [(⟨#[103, 117, 97, 114, 100, 101, 100]⟩ : ByteArray)] else [])
def sigW (s : Sig) : List ByteArray := [(⟨#[115, 105, 103, 110, 97, 108]⟩ : ByteArray), s.gName, itoaB s.gStart, itoaB s.gLength, (if s.gMotorola then (⟨#[109, 111, 116, 111, 114, 111, 108, 97]⟩ : ByteArray) else (⟨#[105, 110, 116, 101, 108]⟩ : ByteArray)), (if s.gSigned then (⟨#[115, 105, 103, 110, 101, 100]⟩ : ByteArray) else (⟨#[117, 110, 115, 105, 103, 110, 101, 100]⟩ : ByteArray)), itoaB s.gNum, itoaB s.gOff, itoaB s.gDen, itoaB s.gLow, itoaB s.gHigh]
theorem joinB_ls (l : List ByteArray) (sep : ByteArray) : ls (joinB l sep) = Lib.join (l.map ls) (ls sep) := rfl
theorem listB_two (a b : Int) : ls (listB [a, b]) = 32 :: (ls (itoaB a) ++ 32 :: ls (itoaB b)) := by
  show ls ((((ByteArray.empty ++ (⟨#[32]⟩ : ByteArray)) ++ itoaB a) ++ (⟨#[32]⟩ : ByteArray)) ++ itoaB b) = _
  simp only [ls_append, List.append_assoc]; rfl
theorem listB_five (a b c d e : Int) : ls (listB [a, b, c, d, e]) = 32 :: (ls (itoaB a) ++ 32 :: (ls (itoaB b) ++ 32 :: (ls (itoaB c) ++ 32 :: (ls (itoaB d) ++ 32 :: ls (itoaB e))))) := by
  show ls ((((((((((ByteArray.empty ++ (⟨#[32]⟩ : ByteArray)) ++ itoaB a) ++ (⟨#[32]⟩ : ByteArray)) ++ itoaB b) ++ (⟨#[32]⟩ : ByteArray)) ++ itoaB c) ++ (⟨#[32]⟩ : ByteArray)) ++ itoaB d) ++ (⟨#[32]⟩ : ByteArray)) ++ itoaB e) = _
  simp only [ls_append, List.append_assoc]; rfl
theorem frm_words (f : Frm) (t : ByteArray) : t ++ (joinB (frmW f) (⟨#[32]⟩ : ByteArray) ++ (⟨#[10]⟩ : ByteArray)) = frmT f t := by
  apply ls_inj
  unfold frmT frmW
  cases f.gGuarded with
  | true =>
    simp only [ls_append, joinB_ls, listB_two, if_true, List.map_cons, List.map_nil, Lib.join_cons, Lib.joinTail, List.flatten_cons, List.flatten_nil, List.append_nil, List.append_assoc, List.cons_append, List.nil_append]
    rfl
  | false =>
    simp only [ls_append, joinB_ls, listB_two, Bool.false_eq_true, if_false, List.map_cons, List.map_nil, Lib.join_cons, Lib.joinTail, List.flatten_cons, List.flatten_nil, List.append_nil, List.append_assoc, List.cons_append, List.nil_append]
    rfl
theorem sig_words (s : Sig) (t : ByteArray) : t ++ (joinB (sigW s) (⟨#[32]⟩ : ByteArray) ++ (⟨#[10]⟩ : ByteArray)) = sigT s t := by
  apply ls_inj
  unfold sigT sigW
  cases s.gMotorola <;> cases s.gSigned <;>
  · simp only [ls_append, joinB_ls, listB_two, listB_five, Bool.false_eq_true, if_false, if_true, List.map_cons, List.map_nil, Lib.join_cons, Lib.joinTail, List.flatten_cons, List.flatten_nil, List.append_nil, List.append_assoc, List.cons_append, List.nil_append]
    rfl
theorem fault_len {d : Db} (h : (faultF d).2 = 0) : d.gFrames_n ≤ 64 := by
  unfold faultF at h
  split at h
  · cases h
  · omega
/-! the first frame with an ID -/
theorem hb32 : HasBody Tryd.prog 32 := fun _ _ => by kernel_rfl
def K32_0 := adv 9 [] (bodyOf Tryd.f32)
def K32_1 := adv 6 [true] K32_0
def K32_2 := adv 7 [false] K32_0
set_option maxRecDepth 20000 in
set_option maxHeartbeats 20000000 in
theorem word_any (c : Bool) (a b : ByteArray) (w : World) : Ret Tryd.prog 32 #[.bool c, .string a, .string b] w (fun v w' => v = .string (if c then a else b) ∧ Sep w [] w') := by
 have S0 := Sep.refl w
 refine Ret.named fun R hR => ?_
 refine Ret.of_J (N := 10) [(0, .bool c), (1, .string a), (2, .string b)] Tryd.func32 rfl rfl (Nat.le_of_ble_eq_true (by kernel_rfl)) (by kernel_rfl) ?_
 refine J.run 9 K32_0 [(7, .bool c), (1, .string a), (2, .string b)] w (by kernel_rfl) ?_
 rcases Bool.eq_false_or_eq_true c with fk1 | fk1
 ·skip
  refine J.head (.bool true) (congrArg Value.bool fk1) ?_
  refine J.run 6 K32_1 [(6, .string a)] w (by kernel_rfl) ?_
  refine J.ret Tryd.f32 [.string a] Tryd.func32 ⟨by kernel_rfl, trivial⟩ ?_
  refine hR _ _ ?_
  exact ⟨by rw [fk1]; rfl, S0.nil⟩
 refine J.head (.bool false) (congrArg Value.bool fk1) ?_
 refine J.run 7 K32_2 [(6, .string b)] w (by kernel_rfl) ?_
 refine J.ret Tryd.f32 [.string b] Tryd.func32 ⟨by kernel_rfl, trivial⟩ ?_
 refine hR _ _ ?_
 exact ⟨by rw [fk1]; rfl, S0.nil⟩

end
end Go.Proofs.YthiklimfffhbaaaDoor

