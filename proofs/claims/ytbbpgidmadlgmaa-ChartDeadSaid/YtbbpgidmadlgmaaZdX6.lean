/- Walks of functions of this seat, printed by a program over the engine. Conditions: as each theorem says. -/
import Derived.Test.YtbbpgidmadlgmaaZdC5
import Derived.Test.YtbbpgidmadlgmaaZdEng17
namespace Go.Proofs.Ytbbpgidmadlgmaa
open Go.Eng Go.RowKit
set_option linter.unusedSimpArgs false
set_option linter.unusedVariables false
structure Md where
  gState : Int
  gAge : Int
def mdE (x : Md) : List Value := [.int .i64 x.gState, .int .i64 x.gAge]
structure Cho where
  gmoves_a : Option Addr
  gmoves_n : Nat
  gmoves_c : Nat
  gmoves_l : List Int
  gstay : Bool
theorem key68 : KeyOK Try.prog 3 (Value.int .i64) := KeyOK.int (by kernel_rfl)
theorem key78 : KeyOK Try.prog 81 twoV := KeyOK.two (by kernel_rfl) (fun _ _ _ _ => by kernel_rfl)
theorem key79 : KeyOK Try.prog 37 twoV := KeyOK.two (by kernel_rfl) (fun _ _ _ _ => by kernel_rfl)
def chV (x : Cho) : Value := .agg #[.slice x.gmoves_a x.gmoves_n x.gmoves_c, .bool x.gstay]
/-! what can be reached -/
theorem pow_facts {n : Nat} (h : n ≤ 10) : 0 < (2 : Int) ^ n ∧ (2 : Int) ^ n ≤ 1024 := by
  have h1 : 0 < 2 ^ n := Nat.pow_pos (by decide)
  have h2 : 2 ^ n ≤ 2 ^ 10 := Nat.pow_le_pow_right (by decide) h
  have h3 : ((2 ^ n : Nat) : Int) = (2 : Int) ^ n := by simp
  have h4 : (2 : Nat) ^ 10 = 1024 := rfl
  omega
def nIn (c : Cht) : Int := 2 ^ c.gInputs_n
def takesP (c : Cht) (s a i : Int) : Prop := ∃ x : Int, (0 ≤ x ∧ x < nIn c) ∧ stepI c s a x = i
def staysP (c : Cht) (s a : Int) : Prop := ∃ x : Int, (0 ≤ x ∧ x < nIn c) ∧ stepI c s a x < 0
def toM (c : Cht) (i : Int) : Int := (c.gMoves_l.getD i.toNat (⟨0, 0, 0, 0, 0⟩ : Mv)).gTo
inductive Rch (c : Cht) : Int → Int → Prop
  | start : Rch c c.gStart 0
  | move {s a i : Int} : Rch c s a → 0 ≤ i → takesP c s a i → Rch c (toM c i) 0
  | stay {s a : Int} : Rch c s a → staysP c s a → a < 1000 → Rch c s (a + 1)
def RS (c : Cht) (s : Int) : Prop := ∃ a, Rch c s a
def RM (c : Cht) (i : Int) : Prop := ∃ s a, Rch c s a ∧ 0 ≤ i ∧ takesP c s a i
theorem takes_lt {c : Cht} {s a i : Int} (h : takesP c s a i) : i < (c.gMoves_l.length : Int) := by
  obtain ⟨x, _, rfl⟩ := h
  have := stepI_bounds c s a x; omega
theorem to_in {c : Cht} (hv : validC c = true) {i : Int} (h0 : 0 ≤ i) (h : i < (c.gMoves_l.length : Int)) : 0 ≤ toM c i ∧ toM c i < (c.gStates_n : Int) := by
  obtain ⟨_, _, _, _, h5⟩ := validC_facts hv
  rw [List.all_eq_true] at h5
  have hm := getD_Q (Q := fun m => mvB c.gStates_n (maskF c) m = true) h5 (n := i.toNat) (⟨0, 0, 0, 0, 0⟩ : Mv) (by omega)
  simp only [mvB, Bool.and_eq_true, decide_eq_true_eq] at hm
  unfold toM; omega
theorem rch_in {c : Cht} (hv : validC c = true) {s a : Int} (h : Rch c s a) : (0 ≤ s ∧ s < (c.gStates_n : Int)) ∧ 0 ≤ a ∧ a ≤ 1000 := by
  induction h with
  | start => have := validC_facts hv; omega
  | move _ h0 ht ih => have := to_in hv h0 (takes_lt ht); omega
  | stay _ _ h1 ih => omega
/-! the choice of a state -/
def chU (c : Cht) (s a x : Int) (l : List Int) (b : Bool) : Prop := (∀ i, i ∈ l ↔ 0 ≤ i ∧ ∃ y : Int, (0 ≤ y ∧ y < x) ∧ stepI c s a y = i) ∧ (b = true ↔ ∃ y : Int, (0 ≤ y ∧ y < x) ∧ stepI c s a y < 0) ∧ (l.length : Int) ≤ x
def chQ (c : Cht) (s a : Int) (l : List Int) (b : Bool) : Prop := (∀ i, i ∈ l ↔ 0 ≤ i ∧ takesP c s a i) ∧ (b = true ↔ staysP c s a) ∧ l.length ≤ 1024
section
variable {c : Cht} {s a x : Int} {l : List Int} {b : Bool}
theorem chU_zero : chU c s a 0 [] false := ⟨fun i => ⟨(fun h => by cases h), fun ⟨_, y, h, _⟩ => by omega⟩, ⟨(fun h => by cases h), fun ⟨y, h, _⟩ => by omega⟩, by simp⟩
theorem chU_neg (h : chU c s a x l b) (h0 : 0 ≤ x) (hx : stepI c s a x < 0) : chU c s a (x + 1) l true := by
  obtain ⟨h1, h2, h3⟩ := h
  refine ⟨fun i => (h1 i).trans ⟨fun ⟨p, y, q, r⟩ => ⟨p, y, by omega, r⟩, fun ⟨p, y, q, r⟩ => ?_⟩, ⟨fun _ => ⟨x, by omega, hx⟩, fun _ => rfl⟩, by omega⟩
  by_cases e : y = x
  · subst e; omega
  · exact ⟨p, y, by omega, r⟩
theorem chU_old (h : chU c s a x l b) (h0 : 0 ≤ x) (hx : ¬ stepI c s a x < 0) (hm : stepI c s a x ∈ l) : chU c s a (x + 1) l b := by
  obtain ⟨h1, h2, h3⟩ := h
  refine ⟨fun i => ⟨fun hi => ?_, fun ⟨p, y, q, r⟩ => ?_⟩, h2.trans ⟨fun ⟨y, q, r⟩ => ⟨y, by omega, r⟩, fun ⟨y, q, r⟩ => ?_⟩, by omega⟩
  · obtain ⟨p, y, q, r⟩ := (h1 i).1 hi; exact ⟨p, y, by omega, r⟩
  · by_cases e : y = x
    · subst e; rw [← r]; exact hm
    · exact (h1 i).2 ⟨p, y, by omega, r⟩
  · by_cases e : y = x
    · subst e; exact absurd r hx
    · exact ⟨y, by omega, r⟩
theorem chU_new (h : chU c s a x l b) (h0 : 0 ≤ x) (hx : ¬ stepI c s a x < 0) : chU c s a (x + 1) (l ++ [stepI c s a x]) b := by
  obtain ⟨h1, h2, h3⟩ := h
  refine ⟨fun i => ⟨fun hi => ?_, fun ⟨p, y, q, r⟩ => ?_⟩, h2.trans ⟨fun ⟨y, q, r⟩ => ⟨y, by omega, r⟩, fun ⟨y, q, r⟩ => ?_⟩, by rw [List.length_append, List.length_singleton]; omega⟩
  · rcases List.mem_append.1 hi with hi | hi
    · obtain ⟨p, y, q, r⟩ := (h1 i).1 hi; exact ⟨p, y, by omega, r⟩
    · rw [List.mem_singleton] at hi; exact ⟨by omega, x, by omega, hi.symm⟩
  · by_cases e : y = x
    · subst e; rw [← r]; exact List.mem_append.2 (.inr (List.mem_singleton.2 rfl))
    · exact List.mem_append.2 (.inl ((h1 i).2 ⟨p, y, by omega, r⟩))
  · by_cases e : y = x
    · subst e; exact absurd r hx
    · exact ⟨y, by omega, r⟩
theorem chU_end (h : chU c s a x l b) (hx : x = nIn c) (hn : c.gInputs_n ≤ 10) : chQ c s a l b := by
  subst hx
  obtain ⟨h1, h2, h3⟩ := h
  have : nIn c ≤ 1024 := by
    unfold nIn
    exact (pow_facts hn).2
  exact ⟨h1, h2, by omega⟩
end
/-- how many moves of a state are old enough -/
def ripeF (c : Cht) (s a : Int) (k : Nat) : Int := ((c.gMoves_l.take k).countP fun m => m.gFrom == s && decide (m.gAfter ≤ a) : Nat)
theorem ripe_step {c : Cht} {s a r : Int} {i : Int} (hr : r = ripeF c s a i.toNat) (h0 : 0 ≤ i) (hi : i < (c.gMoves_l.length : Int)) {b : Bool} (hb : ((c.gMoves_l.getD i.toNat (⟨0, 0, 0, 0, 0⟩ : Mv)).gFrom == s && decide ((c.gMoves_l.getD i.toNat (⟨0, 0, 0, 0, 0⟩ : Mv)).gAfter ≤ a)) = b) : ripeF c s a (i + 1).toNat = if b then r + 1 else r := by
  unfold ripeF at *
  rw [show (i + 1).toNat = i.toNat + 1 by omega, List.take_succ_eq_append_getElem (by omega), List.countP_append, List.countP_singleton]
  rw [List.getD_eq_getElem?_getD, List.getElem?_eq_getElem (by omega)] at hb
  have hb' : (c.gMoves_l[i.toNat].gFrom == s && decide (c.gMoves_l[i.toNat].gAfter ≤ a)) = b := hb
  rw [hb', hr]
  cases b <;> simp
theorem countP_dec {α : Type} {p q : α → Bool} : ∀ {l : List α}, (∀ x ∈ l, q x = true → p x = true) → (∃ x ∈ l, p x = true ∧ q x = false) → l.countP q < l.countP p
  | [], _, ⟨_, h, _⟩ => by cases h
  | y :: l, h, hx => by
    have hle := List.countP_mono_left (l := l) (p := q) (q := p) fun z hz => h z (List.mem_cons_of_mem _ hz)
    rw [List.countP_cons, List.countP_cons]
    obtain ⟨x, hx, hp, hq⟩ := hx
    rcases List.mem_cons.1 hx with rfl | hx
    · rw [hp, hq]; simp; omega
    · have ih := countP_dec (l := l) (fun z hz => h z (List.mem_cons_of_mem _ hz)) ⟨x, hx, hp, hq⟩
      have := h y (List.mem_cons_self ..)
      cases hqy : q y with
      | false => simp only [Bool.false_eq_true, if_false]; omega
      | true => rw [this hqy]; simp; omega
theorem ripe_same {c : Cht} {s a a' : Int} (hr : ripeF c s a c.gMoves_l.length = ripeF c s a' c.gMoves_l.length) : ∀ m ∈ c.gMoves_l, m.gFrom = s → (m.gAfter ≤ a ↔ m.gAfter ≤ a') := by
  have key : ∀ {p q : Int}, p ≤ q → ripeF c s p c.gMoves_l.length = ripeF c s q c.gMoves_l.length → ∀ m ∈ c.gMoves_l, m.gFrom = s → m.gAfter ≤ q → m.gAfter ≤ p := by
    intro p q hpq he m hm hf hq
    rcases Int.lt_or_le p m.gAfter with hlt | hle
    · exfalso
      unfold ripeF at he
      rw [List.take_length] at he
      have := countP_dec (l := c.gMoves_l) (p := fun m => m.gFrom == s && decide (m.gAfter ≤ q)) (q := fun m => m.gFrom == s && decide (m.gAfter ≤ p)) (fun x _ hx => by simp only [Bool.and_eq_true, beq_iff_eq, decide_eq_true_eq] at hx ⊢; omega) ⟨m, hm, by simp only [Bool.and_eq_true, beq_iff_eq, decide_eq_true_eq]; exact ⟨hf, hq⟩, by rw [Bool.and_eq_false_iff]; exact .inr (decide_eq_false (by omega))⟩
      omega
    · exact hle
  intro m hm hf
  rcases Int.le_total a a' with h | h
  · exact ⟨fun h1 => by omega, key h hr m hm hf⟩
  · exact ⟨key h hr.symm m hm hf, fun h1 => by omega⟩
theorem findIdx_congr {α : Type} {p q : α → Bool} : ∀ {l : List α}, (∀ x ∈ l, p x = q x) → l.findIdx? p = l.findIdx? q
  | [], _ => rfl
  | x :: l, h => by rw [List.findIdx?_cons, List.findIdx?_cons, h x (List.mem_cons_self ..), findIdx_congr fun y hy => h y (List.mem_cons_of_mem _ hy)]
theorem indexF_congr {α : Type} {p q : α → Bool} {l : List α} (h : ∀ x ∈ l, p x = q x) : indexF p l = indexF q l := by
  unfold indexF
  rw [findIdx_congr h]
theorem fit_same {s a a' x : Int} {m : Mv} (h : m.gFrom = s → (m.gAfter ≤ a ↔ m.gAfter ≤ a')) : fitB s a x m = fitB s a' x m := by
  unfold fitB
  by_cases hs : m.gFrom = s
  · have := h hs
    rw [show decide (m.gAfter ≤ a) = decide (m.gAfter ≤ a') from decide_eq_decide.2 this]
  · rw [beq_eq_false_iff_ne.2 hs]; rfl
theorem step_same {c : Cht} {s a a' : Int} (h : ∀ m ∈ c.gMoves_l, m.gFrom = s → (m.gAfter ≤ a ↔ m.gAfter ≤ a')) (x : Int) : stepI c s a x = stepI c s a' x := indexF_congr fun m hm => fit_same (h m hm)
theorem chQ_same {c : Cht} {s a a' : Int} {l : List Int} {b : Bool} (h : ∀ m ∈ c.gMoves_l, m.gFrom = s → (m.gAfter ≤ a ↔ m.gAfter ≤ a')) (hc : chQ c s a l b) : chQ c s a' l b := by
  unfold chQ takesP staysP at *
  simp only [step_same h] at hc
  exact hc

/-! the search -/
def unG (G : Int × Int → Option Bool) : Nat := (List.range 20020).countP fun k => !((G (((k / 1001 : Nat) : Int), ((k % 1001 : Nat) : Int))).getD false)
theorem unG_le (G : Int × Int → Option Bool) : unG G ≤ 20020 := by
  unfold unG; exact Nat.le_trans List.countP_le_length (by rw [List.length_range]; exact Nat.le_refl _)
theorem unG_dec {G : Int × Int → Option Bool} {s a : Int} (hs : 0 ≤ s ∧ s < 20) (ha : 0 ≤ a ∧ a ≤ 1000) (h : (G (s, a)).getD false = false) : unG (updF G (s, a) true) < unG G := by
  unfold unG
  refine countP_dec (fun k _ hk => ?_) ⟨s.toNat * 1001 + a.toNat, List.mem_range.2 (by omega), ?_, ?_⟩
  · by_cases e : (((k / 1001 : Nat) : Int), ((k % 1001 : Nat) : Int)) = (s, a)
    · rw [e, updF_at] at hk; exact absurd hk (by decide)
    · rw [updF_ne _ _ e] at hk; exact hk
  · have e : ((((s.toNat * 1001 + a.toNat) / 1001 : Nat) : Int), (((s.toNat * 1001 + a.toNat) % 1001 : Nat) : Int)) = (s, a) := Prod.ext (by show ((_ : Nat) : Int) = s; omega) (by show ((_ : Nat) : Int) = a; omega)
    rw [e, h]; rfl
  · have e : ((((s.toNat * 1001 + a.toNat) / 1001 : Nat) : Int), (((s.toNat * 1001 + a.toNat) % 1001 : Nat) : Int)) = (s, a) := Prod.ext (by show ((_ : Nat) : Int) = s; omega) (by show ((_ : Nat) : Int) = a; omega)
    rw [e, updF_at]; rfl
abbrev md0 : Md := ⟨0, 0⟩
def SInv (c : Cht) (F1 F2 : Int → Option Bool) (G : Int × Int → Option Bool) (q : List Md) : Prop :=
  (∀ m ∈ q, Rch c m.gState m.gAge) ∧ (∀ s a, G (s, a) = some true → Rch c s a) ∧ (G (c.gStart, 0) = some true ∨ (⟨c.gStart, 0⟩ : Md) ∈ q) ∧
  (∀ s a, G (s, a) = some true → F1 s = some true ∧ (∀ i, 0 ≤ i → takesP c s a i → F2 i = some true ∧ (G (toM c i, 0) = some true ∨ (⟨toM c i, 0⟩ : Md) ∈ q)) ∧ (staysP c s a → a < 1000 → G (s, a + 1) = some true ∨ (⟨s, a + 1⟩ : Md) ∈ q)) ∧
  (∀ s, F1 s = some true → RS c s) ∧ (∀ i, F2 i = some true → RM c i)
def SRes (c : Cht) (F1 F2 : Int → Option Bool) : Prop := (∀ s, (F1 s).getD false = true ↔ RS c s) ∧ ∀ i, (F2 i).getD false = true ↔ RM c i
theorem getD_true {o : Option Bool} : o.getD false = true ↔ o = some true := by cases o with | none => simp | some b => simp
section
variable {c : Cht} {F1 F2 : Int → Option Bool} {G : Int × Int → Option Bool} {q : List Md}
theorem sinv_start : SInv c (fun _ => none) (fun _ => none) (fun _ => none) [⟨c.gStart, 0⟩] :=
  ⟨fun m hm => by rw [List.mem_singleton.1 hm]; exact .start, (fun _ _ h => by cases h), .inr (List.mem_singleton.2 rfl), (fun _ _ h => by cases h), (fun _ h => by cases h), (fun _ h => by cases h)⟩
theorem q_split (h : 0 < q.length) : ∀ m, m ∈ q ↔ m = q.getD 0 md0 ∨ m ∈ q.drop 1 := by
  cases q with
  | nil => simp at h
  | cons x q => intro m; simp
theorem sinv_head (h : SInv c F1 F2 G q) (hq : 0 < q.length) {s a : Int} (he : q.getD 0 md0 = ⟨s, a⟩) : Rch c s a := by
  have := h.1 (q.getD 0 md0) ((q_split hq _).2 (.inl rfl))
  rw [he] at this; exact this
theorem sinv_seen (h : SInv c F1 F2 G q) (hq : 0 < q.length) {s a : Int} (he : q.getD 0 md0 = ⟨s, a⟩) (hs : (G (s, a)).getD false = true) : SInv c F1 F2 G (q.drop 1) := by
  have hs' := getD_true.1 hs
  have key : ∀ s' a', (G (s', a') = some true ∨ (⟨s', a'⟩ : Md) ∈ q) → G (s', a') = some true ∨ (⟨s', a'⟩ : Md) ∈ q.drop 1 := by
    intro s' a' h'
    rcases h' with h' | h'
    · exact .inl h'
    · rcases (q_split hq _).1 h' with h' | h'
      · rw [he] at h'; injection h' with e1 e2; rw [e1, e2]; exact .inl hs'
      · exact .inr h'
  obtain ⟨h1, h2, h3, h4, h5, h6⟩ := h
  exact ⟨fun m hm => h1 m ((q_split hq m).2 (.inr hm)), h2, key _ _ h3, fun s' a' hg => ⟨(h4 s' a' hg).1, fun i h0 ht => ⟨((h4 s' a' hg).2.1 i h0 ht).1, key _ _ ((h4 s' a' hg).2.1 i h0 ht).2⟩, fun hst hlt => key _ _ ((h4 s' a' hg).2.2 hst hlt)⟩, h5, h6⟩
theorem sinv_new (h : SInv c F1 F2 G q) (hq : 0 < q.length) {s a : Int} (he : q.getD 0 md0 = ⟨s, a⟩) {l : List Int} {b : Bool} (hc : chQ c s a l b) {F2' : Int → Option Bool} (hF : ∀ i, F2' i = if i ∈ l then some true else F2 i) {q' : List Md}
    (hq' : q' = (q.drop 1 ++ l.map fun i => (⟨toM c i, 0⟩ : Md)) ++ if b = true ∧ a < 1000 then [⟨s, a + 1⟩] else []) : SInv c (updF F1 s true) F2' (updF G (s, a) true) q' := by
  have hr := sinv_head h hq he
  have hmem : ∀ m, m ∈ q' ↔ m ∈ q.drop 1 ∨ (∃ i ∈ l, (⟨toM c i, 0⟩ : Md) = m) ∨ (b = true ∧ a < 1000) ∧ m = ⟨s, a + 1⟩ := by
    intro m; rw [hq', List.mem_append, List.mem_append, List.mem_map]
    split
    · rename_i hb; simp only [List.mem_singleton, hb, true_and, and_self, or_assoc]
    · rename_i hb; simp only [List.not_mem_nil, or_false, hb, false_and]
  have key : ∀ s' a', (G (s', a') = some true ∨ (⟨s', a'⟩ : Md) ∈ q) → updF G (s, a) true (s', a') = some true ∨ (⟨s', a'⟩ : Md) ∈ q' := by
    intro s' a' h'
    by_cases e : (s', a') = (s, a)
    · rw [e]; exact .inl (updF_at _ _ _)
    · rw [updF_ne _ _ e]
      rcases h' with h' | h'
      · exact .inl h'
      · rcases (q_split hq _).1 h' with h' | h'
        · rw [he] at h'; injection h' with e1 e2; exact absurd (by rw [e1, e2]) e
        · exact .inr ((hmem _).2 (.inl h'))
  obtain ⟨h1, h2, h3, h4, h5, h6⟩ := h
  have hF2 : ∀ i, F2 i = some true → F2' i = some true := fun i hi => by rw [hF]; split; rfl; exact hi
  refine ⟨fun m hm => ?_, fun s' a' hg => ?_, key _ _ h3, fun s' a' hg => ?_, fun s' hs' => ?_, fun i hi => ?_⟩
  · rcases (hmem m).1 hm with hm | ⟨i, hi, rfl⟩ | ⟨⟨hb, hlt⟩, rfl⟩
    · exact h1 m ((q_split hq m).2 (.inr hm))
    · exact .move hr ((hc.1 i).1 hi).1 ((hc.1 i).1 hi).2
    · exact .stay hr (hc.2.1.1 hb) hlt
  · by_cases e : (s', a') = (s, a)
    · injection e with e1 e2; rw [e1, e2]; exact hr
    · rw [updF_ne _ _ e] at hg; exact h2 s' a' hg
  · by_cases e : (s', a') = (s, a)
    · injection e with e1 e2; subst e1 e2
      refine ⟨updF_at _ _ _, fun i h0 ht => ?_, fun hst hlt => .inr ((hmem _).2 (.inr (.inr ⟨⟨hc.2.1.2 hst, hlt⟩, rfl⟩)))⟩
      have hi := (hc.1 i).2 ⟨h0, ht⟩
      exact ⟨by rw [hF, if_pos hi], .inr ((hmem _).2 (.inr (.inl ⟨i, hi, rfl⟩)))⟩
    · rw [updF_ne _ _ e] at hg
      obtain ⟨g1, g2, g3⟩ := h4 s' a' hg
      refine ⟨?_, fun i h0 ht => ⟨hF2 i (g2 i h0 ht).1, key _ _ (g2 i h0 ht).2⟩, fun hst hlt => key _ _ (g3 hst hlt)⟩
      by_cases e1 : s' = s
      · rw [e1]; exact updF_at _ _ _
      · rw [updF_ne _ _ e1]; exact g1
  · by_cases e1 : s' = s
    · rw [e1]; exact ⟨a, hr⟩
    · rw [updF_ne _ _ e1] at hs'; exact h5 s' hs'
  · rw [hF] at hi
    split at hi
    · rename_i hm; exact ⟨s, a, hr, ((hc.1 i).1 hm).1, ((hc.1 i).1 hm).2⟩
    · exact h6 i hi
theorem sinv_end (h : SInv c F1 F2 G q) (hq : ¬ 0 < (q.length : Int)) : SRes c F1 F2 := by
  have hn : q = [] := List.eq_nil_of_length_eq_zero (by omega)
  subst hn
  obtain ⟨h1, h2, h3, h4, h5, h6⟩ := h
  have hg : ∀ {s a}, (G (s, a) = some true ∨ (⟨s, a⟩ : Md) ∈ ([] : List Md)) → G (s, a) = some true := fun h => by
    rcases h with h | h
    · exact h
    · cases h
  have all : ∀ s a, Rch c s a → G (s, a) = some true := by
    intro s a hr
    induction hr with
    | start => exact hg h3
    | move _ h0 ht ih => exact hg ((h4 _ _ ih).2.1 _ h0 ht).2
    | stay _ hst hlt ih => exact hg ((h4 _ _ ih).2.2 hst hlt)
  refine ⟨fun s => getD_true.trans ⟨h5 s, fun ⟨a, hr⟩ => (h4 s a (all s a hr)).1⟩, fun i => getD_true.trans ⟨h6 i, fun ⟨s, a, hr, h0, ht⟩ => ((h4 s a (all s a hr)).2.1 i h0 ht).1⟩⟩
/-! what is known of choices -/
def tlC (o : List Cho) : List Eng.Claim := o.reverse.map fun x => rowOf encI x.gmoves_a x.gmoves_c 3 1 x.gmoves_l
theorem tlC_snoc (o : List Cho) (x : Cho) : tlC (o ++ [x]) = rowOf encI x.gmoves_a x.gmoves_c 3 1 x.gmoves_l :: tlC o := by
  unfold tlC; rw [List.reverse_append]; rfl
theorem tlC_mem {o : List Cho} {x : Cho} (h : x ∈ o) : rowOf encI x.gmoves_a x.gmoves_c 3 1 x.gmoves_l ∈ tlC o := List.mem_map.2 ⟨x, List.mem_reverse.2 h, rfl⟩
def KInv (c : Cht) (H : Int × Int → Option Cho) (o : List Cho) : Prop := ∀ s r x, H (s, r) = some x → x ∈ o ∧ x.gmoves_n = x.gmoves_l.length ∧ ∀ a, ripeF c s a c.gMoves_l.length = r → chQ c s a x.gmoves_l x.gstay
theorem kinv_start (c : Cht) : KInv c (fun _ => none) [] := fun _ _ _ h => by cases h
theorem kinv_new {H : Int × Int → Option Cho} {o : List Cho} (h : KInv c H o) {s a r : Int} (hr : r = ripeF c s a c.gMoves_l.length) {x : Cho} (hn : x.gmoves_n = x.gmoves_l.length) (hc : chQ c s a x.gmoves_l x.gstay) : KInv c (updF H (s, r) x) (o ++ [x]) := fun s' r' y hy => by
  by_cases e : (s', r') = (s, r)
  · rw [e, updF_at] at hy
    injection hy with hy; subst hy
    injection e with e1 e2; subst e1 e2
    exact ⟨List.mem_append.2 (.inr (List.mem_singleton.2 rfl)), hn, fun a' ha' => chQ_same (ripe_same (hr.symm.trans ha'.symm)) hc⟩
  · rw [updF_ne _ _ e] at hy
    obtain ⟨k1, k2, k3⟩ := h s' r' y hy
    exact ⟨List.mem_append.2 (.inl k1), k2, k3⟩
/-! the moves of a choice, one by one -/
def LF (l : List Int) (k : Nat) (F2 F : Int → Option Bool) : Prop := ∀ i, F i = if i ∈ l.take k then some true else F2 i
theorem lf_start (l : List Int) (F2 : Int → Option Bool) : LF l 0 F2 F2 := fun i => by simp
theorem lf_step {l : List Int} {k : Int} {F2 F : Int → Option Bool} (h : LF l k.toNat F2 F) (h0 : 0 ≤ k) (hk : k < (l.length : Int)) : LF l (k + 1).toNat F2 (updF F (l.getD k.toNat 0) true) := fun i => by
  rw [show (k + 1).toNat = k.toNat + 1 by omega, List.take_succ_eq_append_getElem (by omega)]
  have e : l.getD k.toNat 0 = l[k.toNat]'(by omega) := by rw [List.getD_eq_getElem?_getD, List.getElem?_eq_getElem (by omega)]; rfl
  rw [e]
  by_cases hi : i = l[k.toNat]'(by omega)
  · rw [hi, updF_at, if_pos (List.mem_append.2 (.inr (List.mem_singleton.2 rfl)))]
  · rw [updF_ne _ _ hi, h i]
    have : i ∈ l.take k.toNat ++ [l[k.toNat]'(by omega)] ↔ i ∈ l.take k.toNat := by rw [List.mem_append, List.mem_singleton]; exact ⟨fun h => h.resolve_right hi, .inl⟩
    by_cases hm : i ∈ l.take k.toNat
    · rw [if_pos hm, if_pos (this.2 hm)]
    · rw [if_neg hm, if_neg fun x => hm (this.1 x)]
theorem lf_end {l : List Int} {k : Int} {F2 F : Int → Option Bool} (h : LF l k.toNat F2 F) (hk : (l.length : Int) ≤ k) : ∀ i, F i = if i ∈ l then some true else F2 i := fun i => by
  rw [h i, List.take_of_length_le (by omega)]
def QF (c : Cht) (q : List Md) (l : List Int) (k : Nat) : List Md := q ++ (l.take k).map fun i => (⟨toM c i, 0⟩ : Md)
theorem qf_step {l : List Int} {k : Int} {q q' : List Md} (h : q' = QF c q l k.toNat) (h0 : 0 ≤ k) (hk : k < (l.length : Int)) {t : Int} (ht : t = toM c (l.getD k.toNat 0)) : q' ++ [(⟨t, 0⟩ : Md)] = QF c q l (k + 1).toNat := by
  unfold QF at *
  rw [show (k + 1).toNat = k.toNat + 1 by omega, List.take_succ_eq_append_getElem (by omega), List.map_append, ← List.append_assoc, ← h]
  have e : l.getD k.toNat 0 = l[k.toNat]'(by omega) := by rw [List.getD_eq_getElem?_getD, List.getElem?_eq_getElem (by omega)]; rfl
  rw [ht, e]; rfl
theorem qf_len {l : List Int} {k : Nat} {q q' : List Md} (h : q' = QF c q l k) : q'.length ≤ q.length + l.length := by
  rw [h]; unfold QF; rw [List.length_append, List.length_map, List.length_take]; omega
end

end Go.Proofs.Ytbbpgidmadlgmaa

