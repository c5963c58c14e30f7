/- Walks of functions of this seat, printed by a program over the engine. Conditions: as each theorem says. -/
import Derived.Test.YthhdaackhfffiaaDoorZlD6
namespace Go.Proofs.YthhdaackhfffiaaDoor
open Go.Eng Go.RowKit
set_option linter.unusedSimpArgs false
set_option linter.unusedVariables false
abbrev kvD7_1 : List Value := [.string ByteArray.empty, iv 0, iv 0]
abbrev kvD7_2 : Array Value := #[.string ⟨#[97, 116]⟩, iv 0, iv 1099511627776, .string ⟨#[112, 101, 100, 97, 108]⟩, iv 0, iv 1000, .string ⟨#[98, 114, 97, 107, 101]⟩, iv 0, iv 1000, .string ⟨#[103, 101, 97, 114]⟩, iv 0, iv 6, .string ⟨#[108, 111, 97, 100]⟩, iv (-500), iv 2000]
structure Dr where
  gAt : Int
  gPedal : Int
  gBrake : Int
  gGear : Int
  gLoad : Int
def drE (x : Dr) : List Value := [iv x.gAt, iv x.gPedal, iv x.gBrake, iv x.gGear, iv x.gLoad]
def drQ (w : World) (x : Dr) : Prop := ((-9223372036854775808) ≤ x.gAt ∧ x.gAt ≤ 9223372036854775807) ∧ ((-9223372036854775808) ≤ x.gPedal ∧ x.gPedal ≤ 9223372036854775807) ∧ ((-9223372036854775808) ≤ x.gBrake ∧ x.gBrake ≤ 9223372036854775807) ∧ ((-9223372036854775808) ≤ x.gGear ∧ x.gGear ≤ 9223372036854775807) ∧ ((-9223372036854775808) ≤ x.gLoad ∧ x.gLoad ≤ 9223372036854775807) ∧ True
abbrev dr0 : Dr := ⟨0, 0, 0, 0, 0⟩
def goodD (d : Dr) : Bool := (decide (0 ≤ d.gAt) && decide (d.gAt ≤ 1099511627776)) && ((decide (0 ≤ d.gPedal) && decide (d.gPedal ≤ 1000)) && ((decide (0 ≤ d.gBrake) && decide (d.gBrake ≤ 1000)) && ((decide (0 ≤ d.gGear) && decide (d.gGear ≤ 6)) && (decide (-500 ≤ d.gLoad) && decide (d.gLoad ≤ 2000)))))
def okAt (l : List Dr) (i : Nat) : Bool := goodD (l.getD i dr0) && (decide (i = 0) || decide ((l.getD (i - 1) dr0).gAt < (l.getD i dr0).gAt))
def validD (l : List Dr) : Bool := decide (1 ≤ l.length ∧ l.length ≤ 200 ∧ (l.getD 0 dr0).gAt = 0) && (List.range l.length).all (okAt l)
theorem valid_no {l : List Dr} (h : ¬ (1 ≤ l.length ∧ l.length ≤ 200 ∧ (l.getD 0 dr0).gAt = 0)) : validD l = false := by unfold validD; rw [decide_eq_false h]; rfl
theorem valid_bad {l : List Dr} {i : Nat} (h : i < l.length) (h2 : okAt l i = false) : validD l = false := by
  unfold validD; rw [Bool.and_eq_false_iff, List.all_eq_false]; exact .inr ⟨i, List.mem_range.2 h, by rw [h2]; decide⟩
theorem valid_yes {l : List Dr} (h : 1 ≤ l.length ∧ l.length ≤ 200) (h0 : (l.getD 0 dr0).gAt = 0) (h2 : ∀ j, j < l.length → okAt l j = true) : validD l = true := by
  unfold validD; rw [decide_eq_true ⟨h.1, h.2, h0⟩, Bool.true_and, List.all_eq_true]; intro j hj; exact h2 j (List.mem_range.1 hj)
theorem ok_iff {l : List Dr} {i : Nat} : okAt l i = true ↔ goodD (l.getD i dr0) = true ∧ (i = 0 ∨ (l.getD (i - 1) dr0).gAt < (l.getD i dr0).gAt) := by
  unfold okAt; rw [Bool.and_eq_true, Bool.or_eq_true, decide_eq_true_eq, decide_eq_true_eq]
theorem good_iff {d : Dr} : goodD d = true ↔ (0 ≤ d.gAt ∧ d.gAt ≤ 1099511627776) ∧ (0 ≤ d.gPedal ∧ d.gPedal ≤ 1000) ∧ (0 ≤ d.gBrake ∧ d.gBrake ≤ 1000) ∧ (0 ≤ d.gGear ∧ d.gGear ≤ 6) ∧ (-500 ≤ d.gLoad ∧ d.gLoad ≤ 2000) := by
  unfold goodD; simp only [Bool.and_eq_true, decide_eq_true_eq]
theorem valid_iff {l : List Dr} : validD l = true ↔ (1 ≤ l.length ∧ l.length ≤ 200 ∧ (l.getD 0 dr0).gAt = 0) ∧ ∀ j, j < l.length → okAt l j = true := by
  unfold validD; rw [Bool.and_eq_true, decide_eq_true_eq, List.all_eq_true]
  exact ⟨fun h => ⟨h.1, fun j hj => h.2 j (List.mem_range.2 hj)⟩, fun h => ⟨h.1, fun j hj => h.2 j (List.mem_range.1 hj)⟩⟩
theorem ascD {l : List Dr} (h : validD l = true) : ∀ (b a : Nat), a < b → b < l.length → (l.getD a dr0).gAt < (l.getD b dr0).gAt
  | 0, a, h1, _ => by omega
  | b + 1, a, h1, h2 => by
    have hb := (ok_iff.1 ((valid_iff.1 h).2 (b + 1) h2)).2
    rw [show b + 1 - 1 = b by omega] at hb
    by_cases hab : a = b
    · subst hab; omega
    · have := ascD h b a (by omega) (by omega); omega
theorem ok_I {l : List Dr} {i : Int} (h0 : 0 ≤ i) : okAt l i.toNat = true ↔ ((0 ≤ (l.getD i.toNat dr0).gAt ∧ (l.getD i.toNat dr0).gAt ≤ 1099511627776) ∧ (0 ≤ (l.getD i.toNat dr0).gPedal ∧ (l.getD i.toNat dr0).gPedal ≤ 1000) ∧ (0 ≤ (l.getD i.toNat dr0).gBrake ∧ (l.getD i.toNat dr0).gBrake ≤ 1000) ∧ (0 ≤ (l.getD i.toNat dr0).gGear ∧ (l.getD i.toNat dr0).gGear ≤ 6) ∧ (-500 ≤ (l.getD i.toNat dr0).gLoad ∧ (l.getD i.toNat dr0).gLoad ≤ 2000)) ∧ (i = 0 ∨ (l.getD (i - 1).toNat dr0).gAt < (l.getD i.toNat dr0).gAt) := by
  rw [ok_iff, good_iff, show (i - 1).toNat = i.toNat - 1 by omega]
  constructor
  · intro ⟨a, b⟩; exact ⟨a, b.imp (fun h => by omega) id⟩
  · intro ⟨a, b⟩; exact ⟨a, b.imp (fun h => by omega) id⟩
theorem ok_badI {l : List Dr} {i : Int} (h0 : 0 ≤ i) (h : ¬ (((0 ≤ (l.getD i.toNat dr0).gAt ∧ (l.getD i.toNat dr0).gAt ≤ 1099511627776) ∧ (0 ≤ (l.getD i.toNat dr0).gPedal ∧ (l.getD i.toNat dr0).gPedal ≤ 1000) ∧ (0 ≤ (l.getD i.toNat dr0).gBrake ∧ (l.getD i.toNat dr0).gBrake ≤ 1000) ∧ (0 ≤ (l.getD i.toNat dr0).gGear ∧ (l.getD i.toNat dr0).gGear ≤ 6) ∧ (-500 ≤ (l.getD i.toNat dr0).gLoad ∧ (l.getD i.toNat dr0).gLoad ≤ 2000)) ∧ (i = 0 ∨ (l.getD (i - 1).toNat dr0).gAt < (l.getD i.toNat dr0).gAt))) : okAt l i.toNat = false := by
  cases hh : okAt l i.toNat with
  | false => rfl
  | true => exact absurd ((ok_I h0).1 hh) h
/-! the order in force -/
def lastD (l : List Dr) (t : Int) : Int := (List.range l.length).foldl (fun k i => if (l.getD i dr0).gAt ≤ t then (i : Int) else k) 0
def lastN (l : List Dr) (t : Int) (n : Nat) : Int := (List.range n).foldl (fun k i => if (l.getD i dr0).gAt ≤ t then (i : Int) else k) 0
theorem lastN_succ (l : List Dr) (t : Int) (n : Nat) : lastN l t (n + 1) = if (l.getD n dr0).gAt ≤ t then (n : Int) else lastN l t n := by
  unfold lastN; rw [List.range_succ, List.foldl_append]; rfl
theorem lastN_is {l : List Dr} {t : Int} {i : Nat} (h1 : (l.getD i dr0).gAt ≤ t) : ∀ n, i < n → (∀ j, i < j → j < n → ¬ (l.getD j dr0).gAt ≤ t) → lastN l t n = (i : Int)
  | 0, h, _ => by omega
  | n + 1, h, h2 => by
    rw [lastN_succ]
    by_cases hi : i = n
    · subst hi; rw [if_pos h1]
    · rw [if_neg (h2 n (by omega) (by omega))]; exact lastN_is h1 n (by omega) (fun j a b => h2 j a (by omega))
/-- in a valid drive: the one whose time has come, and the next one's not -/
theorem lastD_is {l : List Dr} (hv : validD l = true) {t : Int} {i : Nat} (hi : i < l.length) (h1 : (l.getD i dr0).gAt ≤ t) (h2 : i + 1 < l.length → t < (l.getD (i + 1) dr0).gAt) : lastD l t = (i : Int) := by
  refine lastN_is h1 l.length hi fun j a b => ?_
  by_cases hj : j = i + 1
  · subst hj; have := h2 b; omega
  · have := ascD hv j (i + 1) (by omega) b; have := h2 (by omega); omega
theorem val_at {l : List Dr} (h : validD l = true) {j : Nat} (hj : j < l.length) : (0 ≤ (l.getD j dr0).gAt ∧ (l.getD j dr0).gAt ≤ 1099511627776) ∧ (0 ≤ (l.getD j dr0).gPedal ∧ (l.getD j dr0).gPedal ≤ 1000) ∧ (0 ≤ (l.getD j dr0).gBrake ∧ (l.getD j dr0).gBrake ≤ 1000) ∧ (0 ≤ (l.getD j dr0).gGear ∧ (l.getD j dr0).gGear ≤ 6) ∧ (-500 ≤ (l.getD j dr0).gLoad ∧ (l.getD j dr0).gLoad ≤ 2000) :=
  good_iff.1 (ok_iff.1 ((valid_iff.1 h).2 j hj)).1
/-- how many come before a time -/
def posD (l : List Dr) (t : Int) : Int := ((l.takeWhile fun d => decide (d.gAt < t)).length : Int)
def foundD (l : List Dr) (t : Int) : Bool := decide (posD l t < (l.length : Int)) && ((l.getD (posD l t).toNat dr0).gAt - t == 0)
theorem pos_nat {t : Int} : ∀ {l : List Dr} {i : Nat}, i ≤ l.length → (∀ k : Nat, k < i → (l.getD k dr0).gAt < t) → (i < l.length → t ≤ (l.getD i dr0).gAt) → (l.takeWhile fun d => decide (d.gAt < t)).length = i
  | [], i, h, _, _ => by simp at h; subst h; rfl
  | d :: l, 0, _, _, h2 => by
    have : t ≤ d.gAt := h2 (by simp)
    rw [List.takeWhile_cons, decide_eq_false (by omega)]; rfl
  | d :: l, i + 1, h, h1, h2 => by
    have h0 : d.gAt < t := h1 0 (by omega)
    rw [List.takeWhile_cons, decide_eq_true h0, if_pos rfl, List.length_cons]
    rw [pos_nat (l := l) (i := i) (by simpa using h) (fun k hk => by simpa using h1 (k + 1) (by omega)) (fun hk => by simpa using h2 (by simpa using hk))]
theorem bs_pos {l : List Dr} {t i : Int} (h0 : 0 ≤ i ∧ i ≤ (l.length : Int)) (h1 : ∀ k : Nat, (k : Int) < i → (l.getD k dr0).gAt < t) (h2 : i < (l.length : Int) → t ≤ (l.getD i.toNat dr0).gAt) : posD l t = i := by
  unfold posD
  rw [pos_nat (i := i.toNat) (by omega) (fun k hk => h1 k (by omega)) (fun hk => h2 (by omega))]; omega
theorem bs_low {l : List Dr} (hv : validD l = true) {t mid : Int} (h0 : 0 ≤ mid ∧ mid < (l.length : Int)) (hm : (l.getD mid.toNat dr0).gAt < t) : ∀ k : Nat, (k : Int) < mid + 1 → (l.getD k dr0).gAt < t := by
  intro k hk
  by_cases h : k = mid.toNat
  · subst h; exact hm
  · have := ascD hv mid.toNat k (by omega) (by omega); omega
theorem found_yes {l : List Dr} {t i : Int} (h : posD l t = i) (hi : i < (l.length : Int)) : foundD l t = ((l.getD i.toNat dr0).gAt - t == 0) := by
  unfold foundD; rw [h, decide_eq_true hi, Bool.true_and]
theorem found_no {l : List Dr} {t i : Int} (h : posD l t = i) (hi : ¬ i < (l.length : Int)) : foundD l t = false := by
  unfold foundD; rw [h, decide_eq_false hi]; rfl
theorem pos_facts (l : List Dr) (t : Int) : (0 ≤ posD l t ∧ posD l t ≤ (l.length : Int)) ∧ (∀ k : Nat, (k : Int) < posD l t → (l.getD k dr0).gAt < t) ∧ (posD l t < (l.length : Int) → t ≤ (l.getD (posD l t).toNat dr0).gAt) := by
  induction l with
  | nil => exact ⟨by simp [posD], fun k hk => by simp [posD] at hk; omega, fun h => by simp [posD] at h⟩
  | cons d l ih =>
    by_cases h : d.gAt < t
    · have e : posD (d :: l) t = posD l t + 1 := by unfold posD; rw [List.takeWhile_cons, decide_eq_true h, if_pos rfl, List.length_cons]; omega
      obtain ⟨⟨i1, i2⟩, i3, i4⟩ := ih
      rw [e]
      refine ⟨⟨by omega, by rw [List.length_cons]; omega⟩, fun k hk => ?_, fun hk => ?_⟩
      · cases k with
        | zero => exact h
        | succ k => have := i3 k (by omega); simpa using this
      · rw [show (posD l t + 1).toNat = (posD l t).toNat + 1 by omega]
        have := i4 (by rw [List.length_cons] at hk; omega); simpa using this
    · have e : posD (d :: l) t = 0 := by unfold posD; rw [List.takeWhile_cons, decide_eq_false h]; rfl
      rw [e]
      exact ⟨⟨by omega, by omega⟩, fun k hk => by omega, fun _ => by show t ≤ d.gAt; omega⟩
theorem find_last {l : List Dr} (hv : validD l = true) {t : Int} (ht : 0 ≤ t) : (if foundD l t then posD l t else posD l t - 1) = lastD l t ∧ 0 ≤ lastD l t ∧ lastD l t < (l.length : Int) := by
  obtain ⟨⟨p1, p2⟩, p3, p4⟩ := pos_facts l t
  obtain ⟨⟨v1, v2, v3⟩, v4⟩ := valid_iff.1 hv
  by_cases hp : posD l t < (l.length : Int)
  · rw [found_yes rfl hp]
    have h4 := p4 hp
    by_cases he : (l.getD (posD l t).toNat dr0).gAt - t = 0
    · rw [beq_iff_eq.2 he, if_pos rfl]
      have := lastD_is hv (t := t) (i := (posD l t).toNat) (by omega) (by omega) (fun hn => by have := ascD hv ((posD l t).toNat + 1) (posD l t).toNat (by omega) hn; omega)
      rw [this]; omega
    · rw [beq_eq_false_iff_ne.2 he, if_neg (by decide)]
      have hp0 : 0 < posD l t := by
        rcases Int.lt_or_le 0 (posD l t) with h | h
        · exact h
        · have h0 : posD l t = 0 := by omega
          rw [h0] at h4 he
          have h4' : t ≤ (l.getD 0 dr0).gAt := h4
          have he' : ¬ ((l.getD 0 dr0).gAt - t = 0) := he
          omega
      have h3 := p3 (posD l t - 1).toNat (by omega)
      have := lastD_is hv (t := t) (i := (posD l t - 1).toNat) (by omega) (by omega) (fun hn => by rw [show (posD l t - 1).toNat + 1 = (posD l t).toNat by omega]; omega)
      rw [this]; omega
  · rw [found_no rfl hp, if_neg (by decide)]
    have h3 := p3 (posD l t - 1).toNat (by omega)
    have := lastD_is hv (t := t) (i := (posD l t - 1).toNat) (by omega) (by omega) (fun hn => by omega)
    rw [this]; omega
def fndE (l : List Dr) (t : Int) : Int := if validD l then (if 0 ≤ t ∧ t ≤ 1099511627776 then 0 else 2) else 1
def fndI (l : List Dr) (t : Int) : Int := if fndE l t = 0 then lastD l t else 0
theorem fnd_bad {l : List Dr} {t : Int} (h : validD l = false) : fndE l t = 1 ∧ fndI l t = 0 := by unfold fndI fndE; rw [h]; exact ⟨rfl, rfl⟩
theorem fnd_out {l : List Dr} {t : Int} (h : validD l = true) (h2 : ¬ (0 ≤ t ∧ t ≤ 1099511627776)) : fndE l t = 2 ∧ fndI l t = 0 := by unfold fndI fndE; rw [h, if_pos rfl, if_neg h2]; exact ⟨rfl, rfl⟩
theorem fnd_in {l : List Dr} {t : Int} (h : validD l = true) (h2 : 0 ≤ t ∧ t ≤ 1099511627776) : fndE l t = 0 ∧ fndI l t = lastD l t := by unfold fndI fndE; rw [h, if_pos rfl, if_pos h2]; exact ⟨rfl, if_pos rfl⟩
theorem fnd_zero {l : List Dr} {t : Int} (h : fndE l t = 0) : validD l = true ∧ (0 ≤ t ∧ t ≤ 1099511627776) ∧ fndI l t = lastD l t := by
  cases hv : validD l with
  | false => rw [(fnd_bad hv).1] at h; exact absurd h (by decide)
  | true =>
    by_cases h2 : 0 ≤ t ∧ t ≤ 1099511627776
    · exact ⟨rfl, h2, (fnd_in hv h2).2⟩
    · rw [(fnd_out hv h2).1] at h; exact absurd h (by decide)
theorem bs_end {l : List Dr} {t i j : Int} (h0 : 0 ≤ i ∧ i ≤ (l.length : Int)) (e : i = j) (h1 : ∀ k : Nat, (k : Int) < i → (l.getD k dr0).gAt < t) (h2 : j < (l.length : Int) → t ≤ (l.getD j.toNat dr0).gAt) : posD l t = i := by
  subst e; exact bs_pos h0 h1 h2

theorem hb23 : HasBody Tryd.prog 23 := fun _ _ => by kernel_rfl
noncomputable def K23_0 : List Item := adv 2 [] (bodyOf Tryd.f23)
noncomputable def K23_1 : List Item := adv 4 [] (popK (popK K23_0))
noncomputable def K23_2 : List Item := adv 1 [] (popK K23_1)
noncomputable def K23_3 : List Item := adv 1 [] (popK K23_2)
noncomputable def K23_4 : List Item := adv 1 [] (popK K23_3)
noncomputable def K23_5 : List Item := adv 1 [] (popK K23_4)
noncomputable def K23_6 : List Item := adv 1 [] (popK K23_5)
noncomputable def K23_7 : List Item := adv 1 [] (popK K23_6)
set_option maxRecDepth 20000 in
set_option maxHeartbeats 20000000 in
theorem numbers_any (d : Dr) (w : World) : Ret Tryd.prog 23 #[.agg #[iv d.gAt, iv d.gPedal, iv d.gBrake, iv d.gGear, iv d.gLoad]] w (fun v w' => v = .agg #[iv d.gAt, iv d.gPedal, iv d.gBrake, iv d.gGear, iv d.gLoad] ∧ Sep w [] w') := by
 have S0 := Sep.refl w
 refine Ret.named fun R hR => ?_
 refine Ret.of_J (N := 14) [(0, .agg #[iv d.gAt, iv d.gPedal, iv d.gBrake, iv d.gGear, iv d.gLoad])] Tryd.func23 rfl rfl (Nat.le_of_ble_eq_true (by kernel_rfl)) (by kernel_rfl) ?_
 refine J.run 2 K23_0 [(0, .agg #[iv d.gAt, iv d.gPedal, iv d.gBrake, iv d.gGear, iv d.gLoad])] w (by kernel_rfl) ?_
 refine J.new S0 1 [iv d.gAt, iv d.gPedal, iv d.gBrake, iv d.gGear, iv d.gLoad] 27 (by kernel_rfl) ?_
 intro b1 w1 S1
 refine J.new S1 2 [iv 0, iv 0, iv 0, iv 0, iv 0] 48 (by kernel_rfl) ?_
 intro b2 w2 S2
 refine J.run 4 K23_1 [(3, .pointer (some ⟨b1, 0, none⟩)), (2, .pointer (some ⟨b2, 0, none⟩)), (1, .pointer (some ⟨b1, 0, none⟩))] w2 (by kernel_rfl) ?_
 refine J.ok (OK.ldBox S2 1 4 3 0 (iv d.gAt) (by kernel_rfl) rfl (by kernel_rfl)) ?_
 refine J.run 1 K23_2 [(5, .pointer (some ⟨b1, 1, none⟩)), (4, iv d.gAt), (2, .pointer (some ⟨b2, 0, none⟩)), (1, .pointer (some ⟨b1, 0, none⟩))] w2 (by kernel_rfl) ?_
 refine J.ok (OK.ldBox S2 1 6 3 1 (iv d.gPedal) (by kernel_rfl) rfl (by kernel_rfl)) ?_
 refine J.run 1 K23_3 [(7, .pointer (some ⟨b1, 2, none⟩)), (6, iv d.gPedal), (4, iv d.gAt), (2, .pointer (some ⟨b2, 0, none⟩)), (1, .pointer (some ⟨b1, 0, none⟩))] w2 (by kernel_rfl) ?_
 refine J.ok (OK.ldBox S2 1 8 3 2 (iv d.gBrake) (by kernel_rfl) rfl (by kernel_rfl)) ?_
 refine J.run 1 K23_4 [(9, .pointer (some ⟨b1, 3, none⟩)), (8, iv d.gBrake), (6, iv d.gPedal), (4, iv d.gAt), (2, .pointer (some ⟨b2, 0, none⟩)), (1, .pointer (some ⟨b1, 0, none⟩))] w2 (by kernel_rfl) ?_
 refine J.ok (OK.ldBox S2 1 10 3 3 (iv d.gGear) (by kernel_rfl) rfl (by kernel_rfl)) ?_
 refine J.run 1 K23_5 [(11, .pointer (some ⟨b1, 4, none⟩)), (10, iv d.gGear), (8, iv d.gBrake), (6, iv d.gPedal), (4, iv d.gAt), (2, .pointer (some ⟨b2, 0, none⟩))] w2 (by kernel_rfl) ?_
 refine J.ok (OK.ldBox S2 1 12 3 4 (iv d.gLoad) (by kernel_rfl) rfl (by kernel_rfl)) ?_
 refine J.run 1 K23_6 [(13, .agg #[iv d.gAt, iv d.gPedal, iv d.gBrake, iv d.gGear, iv d.gLoad]), (2, .pointer (some ⟨b2, 0, none⟩))] w2 (by kernel_rfl) ?_
 refine J.stBox S2 0 48 0 (.agg #[iv d.gAt, iv d.gPedal, iv d.gBrake, iv d.gGear, iv d.gLoad]) [iv d.gAt, iv d.gPedal, iv d.gBrake, iv d.gGear, iv d.gLoad] [box b2 [iv d.gAt, iv d.gPedal, iv d.gBrake, iv d.gGear, iv d.gLoad] 48, box b1 [iv d.gAt, iv d.gPedal, iv d.gBrake, iv d.gGear, iv d.gLoad] 27] (by kernel_rfl) rfl (by kernel_rfl) (by kernel_rfl) rfl ?_
 intro w3 S3
 refine J.run 1 K23_7 [(2, .pointer (some ⟨b2, 0, none⟩))] w3 (by kernel_rfl) ?_
 refine J.ret Tryd.f23 [.agg #[iv d.gAt, iv d.gPedal, iv d.gBrake, iv d.gGear, iv d.gLoad]] Tryd.func23 ⟨⟨⟨b2, 0, none⟩, by kernel_rfl, ldV_run (S3.nth 0 rfl) (by kernel_rfl)⟩, trivial⟩ ?_
 refine hR _ _ ?_
 exact ⟨rfl, S3.nil⟩

theorem hb24 : HasBody Tryd.prog 24 := fun _ _ => by kernel_rfl
noncomputable def K24_0 : List Item := adv 2 [] (bodyOf Tryd.f24)
noncomputable def K24_1 : List Item := adv 9 [] (popK K24_0)
noncomputable def K24_2 : List Item := adv 1 [] (popK K24_1)
set_option maxRecDepth 20000 in
set_option maxHeartbeats 20000000 in
theorem parts_any  (w : World) : Ret Tryd.prog 24 #[] w (fun v w' => v = .agg kvD7_2 ∧ Sep w [] w') := by
 have S0 := Sep.refl w
 refine Ret.named fun R hR => ?_
 refine Ret.of_J (N := 7) [] Tryd.func24 rfl rfl (Nat.le_of_ble_eq_true (by kernel_rfl)) (by kernel_rfl) ?_
 refine J.run 2 K24_0 [] w (by kernel_rfl) ?_
 refine J.new S0 0 [.string ByteArray.empty, iv 0, iv 0, .string ByteArray.empty, iv 0, iv 0, .string ByteArray.empty, iv 0, iv 0, .string ByteArray.empty, iv 0, iv 0, .string ByteArray.empty, iv 0, iv 0] 52 (by kernel_rfl) ?_
 intro b1 w1 S1
 refine J.run 9 K24_1 [(6, .agg kvD7_2), (0, .pointer (some ⟨b1, 0, none⟩))] w1 (by kernel_rfl) ?_
 refine J.stBox S1 0 52 0 (.agg kvD7_2) [.string ⟨#[97, 116]⟩, iv 0, iv 1099511627776, .string ⟨#[112, 101, 100, 97, 108]⟩, iv 0, iv 1000, .string ⟨#[98, 114, 97, 107, 101]⟩, iv 0, iv 1000, .string ⟨#[103, 101, 97, 114]⟩, iv 0, iv 6, .string ⟨#[108, 111, 97, 100]⟩, iv (-500), iv 2000] [box b1 [.string ⟨#[97, 116]⟩, iv 0, iv 1099511627776, .string ⟨#[112, 101, 100, 97, 108]⟩, iv 0, iv 1000, .string ⟨#[98, 114, 97, 107, 101]⟩, iv 0, iv 1000, .string ⟨#[103, 101, 97, 114]⟩, iv 0, iv 6, .string ⟨#[108, 111, 97, 100]⟩, iv (-500), iv 2000] 52] (by kernel_rfl) rfl (by kernel_rfl) (by kernel_rfl) rfl ?_
 intro w2 S2
 refine J.run 1 K24_2 [(0, .pointer (some ⟨b1, 0, none⟩))] w2 (by kernel_rfl) ?_
 refine J.ret Tryd.f24 [.agg kvD7_2] Tryd.func24 ⟨⟨⟨b1, 0, none⟩, by kernel_rfl, ldV_run (S2.nth 0 rfl) (by kernel_rfl)⟩, trivial⟩ ?_
 refine hR _ _ ?_
 exact ⟨rfl, S2.nil⟩

theorem hb9 : HasBody Tryd.prog 9 := fun _ _ => by kernel_rfl
noncomputable def K9_0 : List Item := adv 11 [] (bodyOf Tryd.f9)
noncomputable def K9_1 : List Item := adv 17 [true] K9_0
noncomputable def K9_2 : List Item := adv 5 [] K9_0
noncomputable def K9_3 : List Item := adv 12 [true] K9_2
noncomputable def K9_4 : List Item := adv 1 [] K9_2
noncomputable def K9_5 : List Item := adv 1 [] (popK K9_4)
noncomputable def K9_6 : List Item := adv 3 [] (popK K9_5)
noncomputable def K9_7 : List Item := adv 11 [false] K9_6
noncomputable def K9_8 : List Item := adv 5 [] K9_7
noncomputable def K9_9 : List Item := adv 7 [true] K9_8
noncomputable def K9_10 : List Item := adv 1 [] (popK (popK (popK K9_9)))
noncomputable def K9_11 : List Item := adv 3 [] (popK K9_10)
noncomputable def K9_12 : List Item := adv 5 [true] (rRest K9_11)
noncomputable def K9_13 : List Item := adv 4 [false] (rRest K9_11)
noncomputable def K9_14 : List Item := adv 3 [] (popK (popK (popK (popK K9_13))))
noncomputable def K9_15 : List Item := adv 17 [true] (popK K9_14)
noncomputable def K9_16 : List Item := adv 1 [] (popK K9_15)
noncomputable def K9_17 : List Item := adv 2 [] (popK K9_16)
noncomputable def K9_18 : List Item := adv 5 [true] (rRest K9_17)
noncomputable def K9_19 : List Item := adv 5 [true] (rRest K9_17)
noncomputable def K9_20 : List Item := adv 8 [false] (rRest K9_17)
noncomputable def K9_21 : List Item := adv 13 [true] K9_20
noncomputable def K9_22 : List Item := adv 1 [] (popK K9_21)
noncomputable def K9_23 : List Item := adv 2 [] (popK K9_22)
noncomputable def K9_24 : List Item := adv 5 [true] (rRest K9_23)
noncomputable def K9_25 : List Item := adv 5 [true] (rRest K9_23)
noncomputable def K9_26 : List Item := adv 8 [false] (rRest K9_23)
noncomputable def K9_27 : List Item := adv 13 [true] K9_26
noncomputable def K9_28 : List Item := adv 1 [] (popK K9_27)
noncomputable def K9_29 : List Item := adv 2 [] (popK K9_28)
noncomputable def K9_30 : List Item := adv 5 [true] (rRest K9_29)
noncomputable def K9_31 : List Item := adv 5 [true] (rRest K9_29)
noncomputable def K9_32 : List Item := adv 8 [false] (rRest K9_29)
noncomputable def K9_33 : List Item := adv 13 [true] K9_32
noncomputable def K9_34 : List Item := adv 1 [] (popK K9_33)
noncomputable def K9_35 : List Item := adv 2 [] (popK K9_34)
noncomputable def K9_36 : List Item := adv 5 [true] (rRest K9_35)
noncomputable def K9_37 : List Item := adv 5 [true] (rRest K9_35)
noncomputable def K9_38 : List Item := adv 8 [false] (rRest K9_35)
noncomputable def K9_39 : List Item := adv 13 [true] K9_38
noncomputable def K9_40 : List Item := adv 1 [] (popK K9_39)
noncomputable def K9_41 : List Item := adv 2 [] (popK K9_40)
noncomputable def K9_42 : List Item := adv 5 [true] (rRest K9_41)
noncomputable def K9_43 : List Item := adv 5 [true] (rRest K9_41)
noncomputable def K9_44 : List Item := adv 8 [false] (rRest K9_41)
noncomputable def K9_45 : List Item := adv 10 [false] K9_44
noncomputable def K9_46 : List Item := adv 4 [false] (rRest K9_11)
noncomputable def K9_47 : List Item := adv 3 [] (popK (popK (popK (popK K9_46))))
noncomputable def K9_48 : List Item := adv 17 [true] (popK K9_47)
noncomputable def K9_49 : List Item := adv 1 [] (popK K9_48)
noncomputable def K9_50 : List Item := adv 2 [] (popK K9_49)
noncomputable def K9_51 : List Item := adv 5 [true] (rRest K9_50)
noncomputable def K9_52 : List Item := adv 5 [true] (rRest K9_50)
noncomputable def K9_53 : List Item := adv 8 [false] (rRest K9_50)
noncomputable def K9_54 : List Item := adv 13 [true] K9_53
noncomputable def K9_55 : List Item := adv 1 [] (popK K9_54)
noncomputable def K9_56 : List Item := adv 2 [] (popK K9_55)
noncomputable def K9_57 : List Item := adv 5 [true] (rRest K9_56)
noncomputable def K9_58 : List Item := adv 5 [true] (rRest K9_56)
noncomputable def K9_59 : List Item := adv 8 [false] (rRest K9_56)
noncomputable def K9_60 : List Item := adv 13 [true] K9_59
noncomputable def K9_61 : List Item := adv 1 [] (popK K9_60)
noncomputable def K9_62 : List Item := adv 2 [] (popK K9_61)
noncomputable def K9_63 : List Item := adv 5 [true] (rRest K9_62)
noncomputable def K9_64 : List Item := adv 5 [true] (rRest K9_62)
noncomputable def K9_65 : List Item := adv 8 [false] (rRest K9_62)
noncomputable def K9_66 : List Item := adv 13 [true] K9_65
noncomputable def K9_67 : List Item := adv 1 [] (popK K9_66)
noncomputable def K9_68 : List Item := adv 2 [] (popK K9_67)
noncomputable def K9_69 : List Item := adv 5 [true] (rRest K9_68)
noncomputable def K9_70 : List Item := adv 5 [true] (rRest K9_68)
noncomputable def K9_71 : List Item := adv 8 [false] (rRest K9_68)
noncomputable def K9_72 : List Item := adv 13 [true] K9_71
noncomputable def K9_73 : List Item := adv 1 [] (popK K9_72)
noncomputable def K9_74 : List Item := adv 2 [] (popK K9_73)
noncomputable def K9_75 : List Item := adv 5 [true] (rRest K9_74)
noncomputable def K9_76 : List Item := adv 5 [true] (rRest K9_74)
noncomputable def K9_77 : List Item := adv 8 [false] (rRest K9_74)
noncomputable def K9_78 : List Item := adv 10 [false] K9_77
noncomputable def K9_79 : List Item := adv 6 [false] K9_8
noncomputable def K9_80 : List Item := adv 5 [true] K9_6
set_option maxRecDepth 20000 in
set_option maxHeartbeats 20000000 in
theorem valid_any (a : Option Addr) (n c : Nat) (l : List Dr) (w : World) (hl : Recs drE 5 w a n l) : Ret Tryd.prog 9 #[.slice a n c] w (fun v w' => v = .bool (validD l) ∧ Sep w [] w') := by
 have S0 := Sep.refl w
 refine Ret.named fun R hR => ?_
 refine Ret.of_J (N := 66) [(0, .slice a n c)] Tryd.func9 rfl rfl (Nat.le_of_ble_eq_true (by kernel_rfl)) (by kernel_rfl) ?_
 have hll := hl.len_eq
 refine J.run 11 K9_0 [(11, .bool (decide ((n : Int) < 1))), (0, .slice a n c)] w (by kernel_rfl) ?_
 by_cases fk1 : (n : Int) < 1
 ·skip
  refine J.head (.bool true) (congrArg Value.bool (decide_eq_true fk1)) ?_
  refine J.run 17 K9_1 [(2, .bool false)] w (by kernel_rfl) ?_
  refine J.ret Tryd.f9 [.bool false] Tryd.func9 ⟨by kernel_rfl, trivial⟩ ?_
  refine hR _ _ ?_
  exact ⟨congrArg Value.bool (valid_no (by omega)).symm, S0.nil⟩
 ·skip
  refine J.head (.bool false) (congrArg Value.bool (decide_eq_false fk1)) ?_
  refine J.run 5 K9_2 [(16, .bool (decide ((n : Int) > 200))), (0, .slice a n c)] w (by kernel_rfl) ?_
  by_cases fk2 : (n : Int) > 200
  ·skip
   refine J.head (.bool true) (congrArg Value.bool (decide_eq_true fk2)) ?_
   refine J.run 12 K9_3 [(2, .bool false)] w (by kernel_rfl) ?_
   refine J.ret Tryd.f9 [.bool false] Tryd.func9 ⟨by kernel_rfl, trivial⟩ ?_
   refine hR _ _ ?_
   exact ⟨congrArg Value.bool (valid_no (by omega)).symm, S0.nil⟩
  ·skip
   refine J.head (.bool false) (congrArg Value.bool (decide_eq_false fk2)) ?_
   refine J.run 1 K9_4 [(17, .slice a n c), (16, .bool false), (0, .slice a n c)] w (by kernel_rfl) ?_
   obtain ⟨p1, hp1, hc1⟩ := hl.at dr0 0 (by omega)
   refine J.ok (OK.index 18 22 5 a p1 n 0 0 (p1.add (0 * 5)) (by kernel_rfl) (by kernel_rfl) hp1 (by omega) (by omega) rfl) ?_
   refine J.run 1 K9_5 [(19, .pointer (some ((p1.add (0 * 5)).add 0))), (16, .bool false), (0, .slice a n c)] w (by kernel_rfl) ?_
   refine J.ok (OK.ldCell 20 3 ((p1.add (0 * 5)).add 0) (iv ((l.getD 0 dr0).gAt)) (by kernel_rfl) (by kernel_rfl) (S0.cell (hc1 0 _ rfl))) ?_
   refine J.run 3 K9_6 [(22, .bool (((l.getD 0 dr0).gAt) != 0)), (0, .slice a n c)] w (by kernel_rfl) ?_
   by_cases fk3 : ((l.getD 0 dr0).gAt) = 0
   ·skip
    refine J.head (.bool false) (congrArg Value.bool (bne_eq_false_iff_eq.2 fk3)) ?_
    refine J.run 11 K9_7 [(25, iv 0), (24, iv (n : Int)), (23, .slice a n c), (0, .slice a n c)] w (by kernel_rfl) ?_
    have L9_1 : ∀ (mm_ : Nat) (i : Int) (w1 : World), (0 ≤ i) → (i ≤ (n : Int)) → (∀ j, j < (i).toNat → okAt l j = true) → Sep w [] w1 → ((n : Int) - i).toNat = mm_ → J Tryd.prog 9 66 R K9_7 [(25, iv i), (24, iv (n : Int)), (23, .slice a n c), (0, .slice a n c)] w1 := by
     intro mm1
     induction mm1 using Nat.strongRecOn with
     | _ mm1 ih1 =>
     intro i w1 h0 h1 hq S1 hm1
     refine J.run 5 K9_8 [(26, .bool (decide (i < (n : Int)))), (25, iv i), (24, iv (n : Int)), (23, .slice a n c), (0, .slice a n c)] w1 (by kernel_rfl) ?_
     by_cases fk4 : i < (n : Int)
     ·skip
      refine J.head (.bool true) (congrArg Value.bool (decide_eq_true fk4)) ?_
      refine J.run 7 K9_9 [(27, iv i), (25, iv i), (24, iv (n : Int)), (23, .slice a n c), (0, .slice a n c)] w1 (by kernel_rfl) ?_
      obtain ⟨p2, hp2, hc2⟩ := hl.at dr0 (i).toNat (by omega)
      refine J.ok (OK.index 28 22 5 a p2 n (i).toNat i (p2.add ((i).toNat * 5)) (by kernel_rfl) (by kernel_rfl) hp2 (by omega) (by omega) rfl) ?_
      refine J.ok (OK.ldCells 29 27 (p2.add ((i).toNat * 5)) [iv ((l.getD (i).toNat dr0).gAt), iv ((l.getD (i).toNat dr0).gPedal), iv ((l.getD (i).toNat dr0).gBrake), iv ((l.getD (i).toNat dr0).gGear), iv ((l.getD (i).toNat dr0).gLoad)] (by kernel_rfl) (by kernel_rfl) (by kernel_rfl) (fun j_ v_ hj_ => S1.cell (hc2 j_ v_ hj_))) ?_
      refine J.new S1 4 [iv 0, iv 0, iv 0, iv 0, iv 0] 27 (by kernel_rfl) ?_
      intro b1 w2 S2
      refine J.run 1 K9_10 [(3, iv i), (4, .pointer (some ⟨b1, 0, none⟩)), (29, .agg #[iv ((l.getD (i).toNat dr0).gAt), iv ((l.getD (i).toNat dr0).gPedal), iv ((l.getD (i).toNat dr0).gBrake), iv ((l.getD (i).toNat dr0).gGear), iv ((l.getD (i).toNat dr0).gLoad)]), (25, iv i), (24, iv (n : Int)), (23, .slice a n c), (0, .slice a n c)] w2 (by kernel_rfl) ?_
      refine J.stBox S2 0 27 0 (.agg #[iv ((l.getD (i).toNat dr0).gAt), iv ((l.getD (i).toNat dr0).gPedal), iv ((l.getD (i).toNat dr0).gBrake), iv ((l.getD (i).toNat dr0).gGear), iv ((l.getD (i).toNat dr0).gLoad)]) [iv ((l.getD (i).toNat dr0).gAt), iv ((l.getD (i).toNat dr0).gPedal), iv ((l.getD (i).toNat dr0).gBrake), iv ((l.getD (i).toNat dr0).gGear), iv ((l.getD (i).toNat dr0).gLoad)] [box b1 [iv ((l.getD (i).toNat dr0).gAt), iv ((l.getD (i).toNat dr0).gPedal), iv ((l.getD (i).toNat dr0).gBrake), iv ((l.getD (i).toNat dr0).gGear), iv ((l.getD (i).toNat dr0).gLoad)] 27] (by kernel_rfl) rfl (by kernel_rfl) (by kernel_rfl) rfl ?_
      intro w3 S3
      refine J.run 3 K9_11 [(3, iv i), (4, .pointer (some ⟨b1, 0, none⟩)), (25, iv i), (24, iv (n : Int)), (23, .slice a n c), (0, .slice a n c)] w3 (by kernel_rfl) ?_
      by_cases fk5 : i > 0
      ·skip
       obtain ⟨p3, hp3, hc3⟩ := hl.at dr0 (i - 1).toNat (by omega)
       refine J.drawStill S3 13 Tryd.mixed (by kernel_rfl) (by kernel_rfl) (by kernel_rfl) ?_
       intro w4 S4
       refine SL.ok (by decide) (OK.run 30 (iv i) (by kernel_rfl)) ?_
       refine SL.ok (by decide) (OK.run 31 (.bool (decide (i > 0))) (by kernel_rfl)) ?_
       refine SL.head (.bool true) (congrArg Value.bool (decide_eq_true fk5)) ?_
       refine SL.ok (by decide) (OK.run 32 (.bool true) (by kernel_rfl)) ?_
       refine SL.ok (by decide) (OK.run 33 (.pointer (some ⟨b1, 0, none⟩)) (by kernel_rfl)) ?_
       refine SL.ok (by decide) (OK.ldBox S4 0 34 3 0 (iv ((l.getD (i).toNat dr0).gAt)) (by kernel_rfl) rfl (by kernel_rfl)) ?_
       refine SL.ok (by decide) (OK.run 35 (.slice a n c) (by kernel_rfl)) ?_
       refine SL.ok (by decide) (OK.run 36 (iv i) (by kernel_rfl)) ?_
       refine SL.ok (by decide) (OK.run 37 (iv (IntKind.wrap .i64 (i - 1))) (by kernel_rfl)) ?_
       refine SL.head (iv (i - 1)) (congrArg (Value.int .i64) (IntWalk.i64_in _ (by omega))) ?_
       refine SL.ok (by decide) (OK.index 38 22 5 a p3 n (i - 1).toNat (i - 1) (p3.add ((i - 1).toNat * 5)) (by kernel_rfl) (by kernel_rfl) hp3 (by omega) (by omega) rfl) ?_
       refine SL.ok (by decide) (OK.run 39 (.pointer (some ((p3.add ((i - 1).toNat * 5)).add 0))) (by kernel_rfl)) ?_
       refine SL.ok (by decide) (OK.ldCell 40 3 ((p3.add ((i - 1).toNat * 5)).add 0) (iv ((l.getD (i - 1).toNat dr0).gAt)) (by kernel_rfl) (by kernel_rfl) (S4.cell (hc3 0 _ rfl))) ?_
       refine SL.ok (by decide) (OK.run 41 (.bool (decide (((l.getD (i).toNat dr0).gAt) ≤ ((l.getD (i - 1).toNat dr0).gAt)))) (by kernel_rfl)) ?_
       refine SL.ok (by decide) (OK.run 42 (.bool (decide (((l.getD (i).toNat dr0).gAt) ≤ ((l.getD (i - 1).toNat dr0).gAt)))) (by kernel_rfl)) ?_
       refine SL.done ?_
       refine TL.done (by kernel_rfl) ?_
       refine J.run 0 (rRest K9_11) [(42, .bool (decide (((l.getD (i).toNat dr0).gAt) ≤ ((l.getD (i - 1).toNat dr0).gAt)))), (4, .pointer (some ⟨b1, 0, none⟩)), (25, iv i), (24, iv (n : Int)), (23, .slice a n c), (0, .slice a n c)] w4 (by kernel_rfl) ?_
       by_cases fk6 : ((l.getD (i).toNat dr0).gAt) ≤ ((l.getD (i - 1).toNat dr0).gAt)
       ·skip
        refine J.head (.bool true) (congrArg Value.bool (decide_eq_true fk6)) ?_
        refine J.run 5 K9_12 [(2, .bool false)] w4 (by kernel_rfl) ?_
        refine J.ret Tryd.f9 [.bool false] Tryd.func9 ⟨by kernel_rfl, trivial⟩ ?_
        refine hR _ _ ?_
        exact ⟨congrArg Value.bool (valid_bad (i := i.toNat) (by omega) (ok_badI h0 (by omega))).symm, S4.nil⟩
       ·skip
        refine J.head (.bool false) (congrArg Value.bool (decide_eq_false fk6)) ?_
        refine J.run 4 K9_13 [(4, .pointer (some ⟨b1, 0, none⟩)), (25, iv i), (24, iv (n : Int)), (23, .slice a n c), (0, .slice a n c)] w4 (by kernel_rfl) ?_
        refine J.ok (OK.ldBox S4 0 43 27 0 (.agg #[iv ((l.getD (i).toNat dr0).gAt), iv ((l.getD (i).toNat dr0).gPedal), iv ((l.getD (i).toNat dr0).gBrake), iv ((l.getD (i).toNat dr0).gGear), iv ((l.getD (i).toNat dr0).gLoad)]) (by kernel_rfl) rfl (by kernel_rfl)) ?_
        refine J.callF 44 23 #[.agg #[iv ((l.getD (i).toNat dr0).gAt), iv ((l.getD (i).toNat dr0).gPedal), iv ((l.getD (i).toNat dr0).gBrake), iv ((l.getD (i).toNat dr0).gGear), iv ((l.getD (i).toNat dr0).gLoad)]] hb23 (by kernel_rfl) (numbers_any (l.getD (i).toNat dr0) _) ?_
        rintro _ w5 ⟨rfl, T1⟩
        have S5 : Sep w [box b1 [iv ((l.getD (i).toNat dr0).gAt), iv ((l.getD (i).toNat dr0).gPedal), iv ((l.getD (i).toNat dr0).gBrake), iv ((l.getD (i).toNat dr0).gGear), iv ((l.getD (i).toNat dr0).gLoad)] 27] w5 := S4.trans T1
        clear T1 S4
        refine J.new S5 5 [iv 0, iv 0, iv 0, iv 0, iv 0] 48 (by kernel_rfl) ?_
        intro b2 w6 S6
        refine J.stBox S6 0 48 0 (.agg #[iv (((l.getD (i).toNat dr0)).gAt), iv (((l.getD (i).toNat dr0)).gPedal), iv (((l.getD (i).toNat dr0)).gBrake), iv (((l.getD (i).toNat dr0)).gGear), iv (((l.getD (i).toNat dr0)).gLoad)]) [iv (((l.getD (i).toNat dr0)).gAt), iv (((l.getD (i).toNat dr0)).gPedal), iv (((l.getD (i).toNat dr0)).gBrake), iv (((l.getD (i).toNat dr0)).gGear), iv (((l.getD (i).toNat dr0)).gLoad)] [box b2 [iv (((l.getD (i).toNat dr0)).gAt), iv (((l.getD (i).toNat dr0)).gPedal), iv (((l.getD (i).toNat dr0)).gBrake), iv (((l.getD (i).toNat dr0)).gGear), iv (((l.getD (i).toNat dr0)).gLoad)] 48, box b1 [iv ((l.getD (i).toNat dr0).gAt), iv ((l.getD (i).toNat dr0).gPedal), iv ((l.getD (i).toNat dr0).gBrake), iv ((l.getD (i).toNat dr0).gGear), iv ((l.getD (i).toNat dr0).gLoad)] 27] (by kernel_rfl) rfl (by kernel_rfl) (by kernel_rfl) rfl ?_
        intro w7 S7
        refine J.run 3 K9_14 [(5, .pointer (some ⟨b2, 0, none⟩)), (25, iv i), (24, iv (n : Int)), (23, .slice a n c), (0, .slice a n c)] w7 (by kernel_rfl) ?_
        refine J.callF 45 24 #[] hb24 (by kernel_rfl) (parts_any  _) ?_
        rintro _ w8 ⟨rfl, T2⟩
        have S8 : Sep w [box b2 [iv (((l.getD (i).toNat dr0)).gAt), iv (((l.getD (i).toNat dr0)).gPedal), iv (((l.getD (i).toNat dr0)).gBrake), iv (((l.getD (i).toNat dr0)).gGear), iv (((l.getD (i).toNat dr0)).gLoad)] 48, box b1 [iv ((l.getD (i).toNat dr0).gAt), iv ((l.getD (i).toNat dr0).gPedal), iv ((l.getD (i).toNat dr0).gBrake), iv ((l.getD (i).toNat dr0).gGear), iv ((l.getD (i).toNat dr0).gLoad)] 27] w8 := S7.trans T2
        clear T2 S7
        refine J.run 17 K9_15 [(49, .agg #[.string ⟨#[97, 116]⟩, iv 0, iv 1099511627776]), (48, iv 0), (46, iv 0), (45, .agg kvD7_2), (5, .pointer (some ⟨b2, 0, none⟩)), (25, iv i), (24, iv (n : Int)), (23, .slice a n c), (0, .slice a n c)] w8 (by kernel_rfl) ?_
        refine J.new S8 7 kvD7_1 51 (by kernel_rfl) ?_
        intro b3 w9 S9
        refine J.run 1 K9_16 [(6, iv 0), (7, .pointer (some ⟨b3, 0, none⟩)), (49, .agg #[.string ⟨#[97, 116]⟩, iv 0, iv 1099511627776]), (46, iv 0), (45, .agg kvD7_2), (5, .pointer (some ⟨b2, 0, none⟩)), (25, iv i), (24, iv (n : Int)), (23, .slice a n c), (0, .slice a n c)] w9 (by kernel_rfl) ?_
        refine J.stBox S9 0 51 0 (.agg #[.string ⟨#[97, 116]⟩, iv 0, iv 1099511627776]) [.string ⟨#[97, 116]⟩, iv 0, iv 1099511627776] [box b3 [.string ⟨#[97, 116]⟩, iv 0, iv 1099511627776] 51, box b2 [iv (((l.getD (i).toNat dr0)).gAt), iv (((l.getD (i).toNat dr0)).gPedal), iv (((l.getD (i).toNat dr0)).gBrake), iv (((l.getD (i).toNat dr0)).gGear), iv (((l.getD (i).toNat dr0)).gLoad)] 48, box b1 [iv ((l.getD (i).toNat dr0).gAt), iv ((l.getD (i).toNat dr0).gPedal), iv ((l.getD (i).toNat dr0).gBrake), iv ((l.getD (i).toNat dr0).gGear), iv ((l.getD (i).toNat dr0).gLoad)] 27] (by kernel_rfl) rfl (by kernel_rfl) (by kernel_rfl) rfl ?_
        intro w10 S10
        refine J.run 2 K9_17 [(6, iv 0), (7, .pointer (some ⟨b3, 0, none⟩)), (46, iv 0), (45, .agg kvD7_2), (5, .pointer (some ⟨b2, 0, none⟩)), (25, iv i), (24, iv (n : Int)), (23, .slice a n c), (0, .slice a n c)] w10 (by kernel_rfl) ?_
        by_cases fk7 : (((l.getD (i).toNat dr0)).gAt) < 0
        ·skip
         refine J.drawStill S10 14 Tryd.mixed (by kernel_rfl) (by kernel_rfl) (by kernel_rfl) ?_
         intro w11 S11
         refine SL.ok (by decide) (OK.run 50 (iv 0) (by kernel_rfl)) ?_
         refine SL.ok (by decide) (OK.indexP 51 48 5 1 b2 0 0 0 (by kernel_rfl) (by kernel_rfl) (by omega) (by omega)) ?_
         refine SL.head (.pointer (some ⟨b2, 0, none⟩)) (by first | rfl | (rw [Nat.zero_add, Nat.mul_one])) ?_
         refine SL.ok (by decide) (OK.ldBox S11 1 52 3 0 (iv (((l.getD (i).toNat dr0)).gAt)) (by kernel_rfl) rfl (by kernel_rfl)) ?_
         refine SL.ok (by decide) (OK.run 53 (.pointer (some ⟨b3, 1, none⟩)) (by kernel_rfl)) ?_
         refine SL.ok (by decide) (OK.ldBox S11 0 54 3 1 (iv 0) (by kernel_rfl) rfl (by kernel_rfl)) ?_
         refine SL.ok (by decide) (OK.run 55 (.bool (decide ((((l.getD (i).toNat dr0)).gAt) < 0))) (by kernel_rfl)) ?_
         refine SL.head (.bool true) (congrArg Value.bool (decide_eq_true fk7)) ?_
         refine SL.ok (by decide) (OK.run 56 (.bool true) (by kernel_rfl)) ?_
         refine SL.pass (d := some 57) (by decide) (by kernel_rfl) ?_
         refine SL.pass (d := some 58) (by decide) (by kernel_rfl) ?_
         refine SL.pass (d := some 59) (by decide) (by kernel_rfl) ?_
         refine SL.pass (d := some 60) (by decide) (by kernel_rfl) ?_
         refine SL.pass (d := some 61) (by decide) (by kernel_rfl) ?_
         refine SL.pass (d := some 62) (by decide) (by kernel_rfl) ?_
         refine SL.ok (by decide) (OK.run 63 (.bool true) (by kernel_rfl)) ?_
         refine SL.done ?_
         refine TL.done (by kernel_rfl) ?_
         refine J.run 0 (rRest K9_17) [(63, .bool true), (46, iv 0), (45, .agg kvD7_2), (5, .pointer (some ⟨b2, 0, none⟩)), (25, iv i), (24, iv (n : Int)), (23, .slice a n c), (0, .slice a n c)] w11 (by kernel_rfl) ?_
         refine J.run 5 K9_18 [(2, .bool false)] w11 (by kernel_rfl) ?_
         refine J.ret Tryd.f9 [.bool false] Tryd.func9 ⟨by kernel_rfl, trivial⟩ ?_
         refine hR _ _ ?_
         exact ⟨congrArg Value.bool (valid_bad (i := i.toNat) (by omega) (ok_badI h0 (by omega))).symm, S11.nil⟩
        ·skip
         refine J.drawStill S10 14 Tryd.mixed (by kernel_rfl) (by kernel_rfl) (by kernel_rfl) ?_
         intro w12 S12
         refine SL.ok (by decide) (OK.run 50 (iv 0) (by kernel_rfl)) ?_
         refine SL.ok (by decide) (OK.indexP 51 48 5 1 b2 0 0 0 (by kernel_rfl) (by kernel_rfl) (by omega) (by omega)) ?_
         refine SL.head (.pointer (some ⟨b2, 0, none⟩)) (by first | rfl | (rw [Nat.zero_add, Nat.mul_one])) ?_
         refine SL.ok (by decide) (OK.ldBox S12 1 52 3 0 (iv (((l.getD (i).toNat dr0)).gAt)) (by kernel_rfl) rfl (by kernel_rfl)) ?_
         refine SL.ok (by decide) (OK.run 53 (.pointer (some ⟨b3, 1, none⟩)) (by kernel_rfl)) ?_
         refine SL.ok (by decide) (OK.ldBox S12 0 54 3 1 (iv 0) (by kernel_rfl) rfl (by kernel_rfl)) ?_
         refine SL.ok (by decide) (OK.run 55 (.bool (decide ((((l.getD (i).toNat dr0)).gAt) < 0))) (by kernel_rfl)) ?_
         refine SL.head (.bool false) (congrArg Value.bool (decide_eq_false fk7)) ?_
         refine SL.ok (by decide) (OK.run 56 (.bool false) (by kernel_rfl)) ?_
         refine SL.ok (by decide) (OK.run 57 (iv 0) (by kernel_rfl)) ?_
         refine SL.ok (by decide) (OK.indexP 58 48 5 1 b2 0 0 0 (by kernel_rfl) (by kernel_rfl) (by omega) (by omega)) ?_
         refine SL.head (.pointer (some ⟨b2, 0, none⟩)) (by first | rfl | (rw [Nat.zero_add, Nat.mul_one])) ?_
         refine SL.ok (by decide) (OK.ldBox S12 1 59 3 0 (iv (((l.getD (i).toNat dr0)).gAt)) (by kernel_rfl) rfl (by kernel_rfl)) ?_
         refine SL.ok (by decide) (OK.run 60 (.pointer (some ⟨b3, 2, none⟩)) (by kernel_rfl)) ?_
         refine SL.ok (by decide) (OK.ldBox S12 0 61 3 2 (iv 1099511627776) (by kernel_rfl) rfl (by kernel_rfl)) ?_
         refine SL.ok (by decide) (OK.run 62 (.bool (decide ((((l.getD (i).toNat dr0)).gAt) > 1099511627776))) (by kernel_rfl)) ?_
         refine SL.ok (by decide) (OK.run 63 (.bool (decide ((((l.getD (i).toNat dr0)).gAt) > 1099511627776))) (by kernel_rfl)) ?_
         refine SL.done ?_
         refine TL.done (by kernel_rfl) ?_
         refine J.run 0 (rRest K9_17) [(63, .bool (decide ((((l.getD (i).toNat dr0)).gAt) > 1099511627776))), (46, iv 0), (45, .agg kvD7_2), (5, .pointer (some ⟨b2, 0, none⟩)), (25, iv i), (24, iv (n : Int)), (23, .slice a n c), (0, .slice a n c)] w12 (by kernel_rfl) ?_
         by_cases fk8 : (((l.getD (i).toNat dr0)).gAt) > 1099511627776
         ·skip
          refine J.head (.bool true) (congrArg Value.bool (decide_eq_true fk8)) ?_
          refine J.run 5 K9_19 [(2, .bool false)] w12 (by kernel_rfl) ?_
          refine J.ret Tryd.f9 [.bool false] Tryd.func9 ⟨by kernel_rfl, trivial⟩ ?_
          refine hR _ _ ?_
          exact ⟨congrArg Value.bool (valid_bad (i := i.toNat) (by omega) (ok_badI h0 (by omega))).symm, S12.nil⟩
         ·skip
          refine J.head (.bool false) (congrArg Value.bool (decide_eq_false fk8)) ?_
          refine J.run 8 K9_20 [(46, iv 1), (45, .agg kvD7_2), (5, .pointer (some ⟨b2, 0, none⟩)), (25, iv i), (24, iv (n : Int)), (23, .slice a n c), (0, .slice a n c)] w12 (by kernel_rfl) ?_
          have S13 : Sep w [box b2 [iv (((l.getD (i).toNat dr0)).gAt), iv (((l.getD (i).toNat dr0)).gPedal), iv (((l.getD (i).toNat dr0)).gBrake), iv (((l.getD (i).toNat dr0)).gGear), iv (((l.getD (i).toNat dr0)).gLoad)] 48, box b1 [iv ((l.getD (i).toNat dr0).gAt), iv ((l.getD (i).toNat dr0).gPedal), iv ((l.getD (i).toNat dr0).gBrake), iv ((l.getD (i).toNat dr0).gGear), iv ((l.getD (i).toNat dr0).gLoad)] 27] w12 := S12.erase 0
          clear S12
          refine J.run 13 K9_21 [(49, .agg #[.string ⟨#[112, 101, 100, 97, 108]⟩, iv 0, iv 1000]), (48, iv 1), (46, iv 1), (45, .agg kvD7_2), (5, .pointer (some ⟨b2, 0, none⟩)), (25, iv i), (24, iv (n : Int)), (23, .slice a n c), (0, .slice a n c)] w12 (by kernel_rfl) ?_
          refine J.new S13 7 kvD7_1 51 (by kernel_rfl) ?_
          intro b4 w13 S14
          refine J.run 1 K9_22 [(6, iv 1), (7, .pointer (some ⟨b4, 0, none⟩)), (49, .agg #[.string ⟨#[112, 101, 100, 97, 108]⟩, iv 0, iv 1000]), (46, iv 1), (45, .agg kvD7_2), (5, .pointer (some ⟨b2, 0, none⟩)), (25, iv i), (24, iv (n : Int)), (23, .slice a n c), (0, .slice a n c)] w13 (by kernel_rfl) ?_
          refine J.stBox S14 0 51 0 (.agg #[.string ⟨#[112, 101, 100, 97, 108]⟩, iv 0, iv 1000]) [.string ⟨#[112, 101, 100, 97, 108]⟩, iv 0, iv 1000] [box b4 [.string ⟨#[112, 101, 100, 97, 108]⟩, iv 0, iv 1000] 51, box b2 [iv (((l.getD (i).toNat dr0)).gAt), iv (((l.getD (i).toNat dr0)).gPedal), iv (((l.getD (i).toNat dr0)).gBrake), iv (((l.getD (i).toNat dr0)).gGear), iv (((l.getD (i).toNat dr0)).gLoad)] 48, box b1 [iv ((l.getD (i).toNat dr0).gAt), iv ((l.getD (i).toNat dr0).gPedal), iv ((l.getD (i).toNat dr0).gBrake), iv ((l.getD (i).toNat dr0).gGear), iv ((l.getD (i).toNat dr0).gLoad)] 27] (by kernel_rfl) rfl (by kernel_rfl) (by kernel_rfl) rfl ?_
          intro w14 S15
          refine J.run 2 K9_23 [(6, iv 1), (7, .pointer (some ⟨b4, 0, none⟩)), (46, iv 1), (45, .agg kvD7_2), (5, .pointer (some ⟨b2, 0, none⟩)), (25, iv i), (24, iv (n : Int)), (23, .slice a n c), (0, .slice a n c)] w14 (by kernel_rfl) ?_
          by_cases fk9 : (((l.getD (i).toNat dr0)).gPedal) < 0
          ·skip
           refine J.drawStill S15 14 Tryd.mixed (by kernel_rfl) (by kernel_rfl) (by kernel_rfl) ?_
           intro w15 S16
           refine SL.ok (by decide) (OK.run 50 (iv 1) (by kernel_rfl)) ?_
           refine SL.ok (by decide) (OK.indexP 51 48 5 1 b2 0 1 1 (by kernel_rfl) (by kernel_rfl) (by omega) (by omega)) ?_
           refine SL.head (.pointer (some ⟨b2, 1, none⟩)) (by first | rfl | (rw [Nat.zero_add, Nat.mul_one])) ?_
           refine SL.ok (by decide) (OK.ldBox S16 1 52 3 1 (iv (((l.getD (i).toNat dr0)).gPedal)) (by kernel_rfl) rfl (by kernel_rfl)) ?_
           refine SL.ok (by decide) (OK.run 53 (.pointer (some ⟨b4, 1, none⟩)) (by kernel_rfl)) ?_
           refine SL.ok (by decide) (OK.ldBox S16 0 54 3 1 (iv 0) (by kernel_rfl) rfl (by kernel_rfl)) ?_
           refine SL.ok (by decide) (OK.run 55 (.bool (decide ((((l.getD (i).toNat dr0)).gPedal) < 0))) (by kernel_rfl)) ?_
           refine SL.head (.bool true) (congrArg Value.bool (decide_eq_true fk9)) ?_
           refine SL.ok (by decide) (OK.run 56 (.bool true) (by kernel_rfl)) ?_
           refine SL.pass (d := some 57) (by decide) (by kernel_rfl) ?_
           refine SL.pass (d := some 58) (by decide) (by kernel_rfl) ?_
           refine SL.pass (d := some 59) (by decide) (by kernel_rfl) ?_
           refine SL.pass (d := some 60) (by decide) (by kernel_rfl) ?_
           refine SL.pass (d := some 61) (by decide) (by kernel_rfl) ?_
           refine SL.pass (d := some 62) (by decide) (by kernel_rfl) ?_
           refine SL.ok (by decide) (OK.run 63 (.bool true) (by kernel_rfl)) ?_
           refine SL.done ?_
           refine TL.done (by kernel_rfl) ?_
           refine J.run 0 (rRest K9_23) [(63, .bool true), (46, iv 1), (45, .agg kvD7_2), (5, .pointer (some ⟨b2, 0, none⟩)), (25, iv i), (24, iv (n : Int)), (23, .slice a n c), (0, .slice a n c)] w15 (by kernel_rfl) ?_
           refine J.run 5 K9_24 [(2, .bool false)] w15 (by kernel_rfl) ?_
           refine J.ret Tryd.f9 [.bool false] Tryd.func9 ⟨by kernel_rfl, trivial⟩ ?_
           refine hR _ _ ?_
           exact ⟨congrArg Value.bool (valid_bad (i := i.toNat) (by omega) (ok_badI h0 (by omega))).symm, S16.nil⟩
          ·skip
           refine J.drawStill S15 14 Tryd.mixed (by kernel_rfl) (by kernel_rfl) (by kernel_rfl) ?_
           intro w16 S17
           refine SL.ok (by decide) (OK.run 50 (iv 1) (by kernel_rfl)) ?_
           refine SL.ok (by decide) (OK.indexP 51 48 5 1 b2 0 1 1 (by kernel_rfl) (by kernel_rfl) (by omega) (by omega)) ?_
           refine SL.head (.pointer (some ⟨b2, 1, none⟩)) (by first | rfl | (rw [Nat.zero_add, Nat.mul_one])) ?_
           refine SL.ok (by decide) (OK.ldBox S17 1 52 3 1 (iv (((l.getD (i).toNat dr0)).gPedal)) (by kernel_rfl) rfl (by kernel_rfl)) ?_
           refine SL.ok (by decide) (OK.run 53 (.pointer (some ⟨b4, 1, none⟩)) (by kernel_rfl)) ?_
           refine SL.ok (by decide) (OK.ldBox S17 0 54 3 1 (iv 0) (by kernel_rfl) rfl (by kernel_rfl)) ?_
           refine SL.ok (by decide) (OK.run 55 (.bool (decide ((((l.getD (i).toNat dr0)).gPedal) < 0))) (by kernel_rfl)) ?_
           refine SL.head (.bool false) (congrArg Value.bool (decide_eq_false fk9)) ?_
           refine SL.ok (by decide) (OK.run 56 (.bool false) (by kernel_rfl)) ?_
           refine SL.ok (by decide) (OK.run 57 (iv 1) (by kernel_rfl)) ?_
           refine SL.ok (by decide) (OK.indexP 58 48 5 1 b2 0 1 1 (by kernel_rfl) (by kernel_rfl) (by omega) (by omega)) ?_
           refine SL.head (.pointer (some ⟨b2, 1, none⟩)) (by first | rfl | (rw [Nat.zero_add, Nat.mul_one])) ?_
           refine SL.ok (by decide) (OK.ldBox S17 1 59 3 1 (iv (((l.getD (i).toNat dr0)).gPedal)) (by kernel_rfl) rfl (by kernel_rfl)) ?_
           refine SL.ok (by decide) (OK.run 60 (.pointer (some ⟨b4, 2, none⟩)) (by kernel_rfl)) ?_
           refine SL.ok (by decide) (OK.ldBox S17 0 61 3 2 (iv 1000) (by kernel_rfl) rfl (by kernel_rfl)) ?_
           refine SL.ok (by decide) (OK.run 62 (.bool (decide ((((l.getD (i).toNat dr0)).gPedal) > 1000))) (by kernel_rfl)) ?_
           refine SL.ok (by decide) (OK.run 63 (.bool (decide ((((l.getD (i).toNat dr0)).gPedal) > 1000))) (by kernel_rfl)) ?_
           refine SL.done ?_
           refine TL.done (by kernel_rfl) ?_
           refine J.run 0 (rRest K9_23) [(63, .bool (decide ((((l.getD (i).toNat dr0)).gPedal) > 1000))), (46, iv 1), (45, .agg kvD7_2), (5, .pointer (some ⟨b2, 0, none⟩)), (25, iv i), (24, iv (n : Int)), (23, .slice a n c), (0, .slice a n c)] w16 (by kernel_rfl) ?_
           by_cases fk10 : (((l.getD (i).toNat dr0)).gPedal) > 1000
           ·skip
            refine J.head (.bool true) (congrArg Value.bool (decide_eq_true fk10)) ?_
            refine J.run 5 K9_25 [(2, .bool false)] w16 (by kernel_rfl) ?_
            refine J.ret Tryd.f9 [.bool false] Tryd.func9 ⟨by kernel_rfl, trivial⟩ ?_
            refine hR _ _ ?_
            exact ⟨congrArg Value.bool (valid_bad (i := i.toNat) (by omega) (ok_badI h0 (by omega))).symm, S17.nil⟩
           ·skip
            refine J.head (.bool false) (congrArg Value.bool (decide_eq_false fk10)) ?_
            refine J.run 8 K9_26 [(46, iv 2), (45, .agg kvD7_2), (5, .pointer (some ⟨b2, 0, none⟩)), (25, iv i), (24, iv (n : Int)), (23, .slice a n c), (0, .slice a n c)] w16 (by kernel_rfl) ?_
            have S18 : Sep w [box b2 [iv (((l.getD (i).toNat dr0)).gAt), iv (((l.getD (i).toNat dr0)).gPedal), iv (((l.getD (i).toNat dr0)).gBrake), iv (((l.getD (i).toNat dr0)).gGear), iv (((l.getD (i).toNat dr0)).gLoad)] 48, box b1 [iv ((l.getD (i).toNat dr0).gAt), iv ((l.getD (i).toNat dr0).gPedal), iv ((l.getD (i).toNat dr0).gBrake), iv ((l.getD (i).toNat dr0).gGear), iv ((l.getD (i).toNat dr0).gLoad)] 27] w16 := S17.erase 0
            clear S17
            refine J.run 13 K9_27 [(49, .agg #[.string ⟨#[98, 114, 97, 107, 101]⟩, iv 0, iv 1000]), (48, iv 2), (46, iv 2), (45, .agg kvD7_2), (5, .pointer (some ⟨b2, 0, none⟩)), (25, iv i), (24, iv (n : Int)), (23, .slice a n c), (0, .slice a n c)] w16 (by kernel_rfl) ?_
            refine J.new S18 7 kvD7_1 51 (by kernel_rfl) ?_
            intro b5 w17 S19
            refine J.run 1 K9_28 [(6, iv 2), (7, .pointer (some ⟨b5, 0, none⟩)), (49, .agg #[.string ⟨#[98, 114, 97, 107, 101]⟩, iv 0, iv 1000]), (46, iv 2), (45, .agg kvD7_2), (5, .pointer (some ⟨b2, 0, none⟩)), (25, iv i), (24, iv (n : Int)), (23, .slice a n c), (0, .slice a n c)] w17 (by kernel_rfl) ?_
            refine J.stBox S19 0 51 0 (.agg #[.string ⟨#[98, 114, 97, 107, 101]⟩, iv 0, iv 1000]) [.string ⟨#[98, 114, 97, 107, 101]⟩, iv 0, iv 1000] [box b5 [.string ⟨#[98, 114, 97, 107, 101]⟩, iv 0, iv 1000] 51, box b2 [iv (((l.getD (i).toNat dr0)).gAt), iv (((l.getD (i).toNat dr0)).gPedal), iv (((l.getD (i).toNat dr0)).gBrake), iv (((l.getD (i).toNat dr0)).gGear), iv (((l.getD (i).toNat dr0)).gLoad)] 48, box b1 [iv ((l.getD (i).toNat dr0).gAt), iv ((l.getD (i).toNat dr0).gPedal), iv ((l.getD (i).toNat dr0).gBrake), iv ((l.getD (i).toNat dr0).gGear), iv ((l.getD (i).toNat dr0).gLoad)] 27] (by kernel_rfl) rfl (by kernel_rfl) (by kernel_rfl) rfl ?_
            intro w18 S20
            refine J.run 2 K9_29 [(6, iv 2), (7, .pointer (some ⟨b5, 0, none⟩)), (46, iv 2), (45, .agg kvD7_2), (5, .pointer (some ⟨b2, 0, none⟩)), (25, iv i), (24, iv (n : Int)), (23, .slice a n c), (0, .slice a n c)] w18 (by kernel_rfl) ?_
            by_cases fk11 : (((l.getD (i).toNat dr0)).gBrake) < 0
            ·skip
             refine J.drawStill S20 14 Tryd.mixed (by kernel_rfl) (by kernel_rfl) (by kernel_rfl) ?_
             intro w19 S21
             refine SL.ok (by decide) (OK.run 50 (iv 2) (by kernel_rfl)) ?_
             refine SL.ok (by decide) (OK.indexP 51 48 5 1 b2 0 2 2 (by kernel_rfl) (by kernel_rfl) (by omega) (by omega)) ?_
             refine SL.head (.pointer (some ⟨b2, 2, none⟩)) (by first | rfl | (rw [Nat.zero_add, Nat.mul_one])) ?_
             refine SL.ok (by decide) (OK.ldBox S21 1 52 3 2 (iv (((l.getD (i).toNat dr0)).gBrake)) (by kernel_rfl) rfl (by kernel_rfl)) ?_
             refine SL.ok (by decide) (OK.run 53 (.pointer (some ⟨b5, 1, none⟩)) (by kernel_rfl)) ?_
             refine SL.ok (by decide) (OK.ldBox S21 0 54 3 1 (iv 0) (by kernel_rfl) rfl (by kernel_rfl)) ?_
             refine SL.ok (by decide) (OK.run 55 (.bool (decide ((((l.getD (i).toNat dr0)).gBrake) < 0))) (by kernel_rfl)) ?_
             refine SL.head (.bool true) (congrArg Value.bool (decide_eq_true fk11)) ?_
             refine SL.ok (by decide) (OK.run 56 (.bool true) (by kernel_rfl)) ?_
             refine SL.pass (d := some 57) (by decide) (by kernel_rfl) ?_
             refine SL.pass (d := some 58) (by decide) (by kernel_rfl) ?_
             refine SL.pass (d := some 59) (by decide) (by kernel_rfl) ?_
             refine SL.pass (d := some 60) (by decide) (by kernel_rfl) ?_
             refine SL.pass (d := some 61) (by decide) (by kernel_rfl) ?_
             refine SL.pass (d := some 62) (by decide) (by kernel_rfl) ?_
             refine SL.ok (by decide) (OK.run 63 (.bool true) (by kernel_rfl)) ?_
             refine SL.done ?_
             refine TL.done (by kernel_rfl) ?_
             refine J.run 0 (rRest K9_29) [(63, .bool true), (46, iv 2), (45, .agg kvD7_2), (5, .pointer (some ⟨b2, 0, none⟩)), (25, iv i), (24, iv (n : Int)), (23, .slice a n c), (0, .slice a n c)] w19 (by kernel_rfl) ?_
             refine J.run 5 K9_30 [(2, .bool false)] w19 (by kernel_rfl) ?_
             refine J.ret Tryd.f9 [.bool false] Tryd.func9 ⟨by kernel_rfl, trivial⟩ ?_
             refine hR _ _ ?_
             exact ⟨congrArg Value.bool (valid_bad (i := i.toNat) (by omega) (ok_badI h0 (by omega))).symm, S21.nil⟩
            ·skip
             refine J.drawStill S20 14 Tryd.mixed (by kernel_rfl) (by kernel_rfl) (by kernel_rfl) ?_
             intro w20 S22
             refine SL.ok (by decide) (OK.run 50 (iv 2) (by kernel_rfl)) ?_
             refine SL.ok (by decide) (OK.indexP 51 48 5 1 b2 0 2 2 (by kernel_rfl) (by kernel_rfl) (by omega) (by omega)) ?_
             refine SL.head (.pointer (some ⟨b2, 2, none⟩)) (by first | rfl | (rw [Nat.zero_add, Nat.mul_one])) ?_
             refine SL.ok (by decide) (OK.ldBox S22 1 52 3 2 (iv (((l.getD (i).toNat dr0)).gBrake)) (by kernel_rfl) rfl (by kernel_rfl)) ?_
             refine SL.ok (by decide) (OK.run 53 (.pointer (some ⟨b5, 1, none⟩)) (by kernel_rfl)) ?_
             refine SL.ok (by decide) (OK.ldBox S22 0 54 3 1 (iv 0) (by kernel_rfl) rfl (by kernel_rfl)) ?_
             refine SL.ok (by decide) (OK.run 55 (.bool (decide ((((l.getD (i).toNat dr0)).gBrake) < 0))) (by kernel_rfl)) ?_
             refine SL.head (.bool false) (congrArg Value.bool (decide_eq_false fk11)) ?_
             refine SL.ok (by decide) (OK.run 56 (.bool false) (by kernel_rfl)) ?_
             refine SL.ok (by decide) (OK.run 57 (iv 2) (by kernel_rfl)) ?_
             refine SL.ok (by decide) (OK.indexP 58 48 5 1 b2 0 2 2 (by kernel_rfl) (by kernel_rfl) (by omega) (by omega)) ?_
             refine SL.head (.pointer (some ⟨b2, 2, none⟩)) (by first | rfl | (rw [Nat.zero_add, Nat.mul_one])) ?_
             refine SL.ok (by decide) (OK.ldBox S22 1 59 3 2 (iv (((l.getD (i).toNat dr0)).gBrake)) (by kernel_rfl) rfl (by kernel_rfl)) ?_
             refine SL.ok (by decide) (OK.run 60 (.pointer (some ⟨b5, 2, none⟩)) (by kernel_rfl)) ?_
             refine SL.ok (by decide) (OK.ldBox S22 0 61 3 2 (iv 1000) (by kernel_rfl) rfl (by kernel_rfl)) ?_
             refine SL.ok (by decide) (OK.run 62 (.bool (decide ((((l.getD (i).toNat dr0)).gBrake) > 1000))) (by kernel_rfl)) ?_
             refine SL.ok (by decide) (OK.run 63 (.bool (decide ((((l.getD (i).toNat dr0)).gBrake) > 1000))) (by kernel_rfl)) ?_
             refine SL.done ?_
             refine TL.done (by kernel_rfl) ?_
             refine J.run 0 (rRest K9_29) [(63, .bool (decide ((((l.getD (i).toNat dr0)).gBrake) > 1000))), (46, iv 2), (45, .agg kvD7_2), (5, .pointer (some ⟨b2, 0, none⟩)), (25, iv i), (24, iv (n : Int)), (23, .slice a n c), (0, .slice a n c)] w20 (by kernel_rfl) ?_
             by_cases fk12 : (((l.getD (i).toNat dr0)).gBrake) > 1000
             ·skip
              refine J.head (.bool true) (congrArg Value.bool (decide_eq_true fk12)) ?_
              refine J.run 5 K9_31 [(2, .bool false)] w20 (by kernel_rfl) ?_
              refine J.ret Tryd.f9 [.bool false] Tryd.func9 ⟨by kernel_rfl, trivial⟩ ?_
              refine hR _ _ ?_
              exact ⟨congrArg Value.bool (valid_bad (i := i.toNat) (by omega) (ok_badI h0 (by omega))).symm, S22.nil⟩
             ·skip
              refine J.head (.bool false) (congrArg Value.bool (decide_eq_false fk12)) ?_
              refine J.run 8 K9_32 [(46, iv 3), (45, .agg kvD7_2), (5, .pointer (some ⟨b2, 0, none⟩)), (25, iv i), (24, iv (n : Int)), (23, .slice a n c), (0, .slice a n c)] w20 (by kernel_rfl) ?_
              have S23 : Sep w [box b2 [iv (((l.getD (i).toNat dr0)).gAt), iv (((l.getD (i).toNat dr0)).gPedal), iv (((l.getD (i).toNat dr0)).gBrake), iv (((l.getD (i).toNat dr0)).gGear), iv (((l.getD (i).toNat dr0)).gLoad)] 48, box b1 [iv ((l.getD (i).toNat dr0).gAt), iv ((l.getD (i).toNat dr0).gPedal), iv ((l.getD (i).toNat dr0).gBrake), iv ((l.getD (i).toNat dr0).gGear), iv ((l.getD (i).toNat dr0).gLoad)] 27] w20 := S22.erase 0
              clear S22
              refine J.run 13 K9_33 [(49, .agg #[.string ⟨#[103, 101, 97, 114]⟩, iv 0, iv 6]), (48, iv 3), (46, iv 3), (45, .agg kvD7_2), (5, .pointer (some ⟨b2, 0, none⟩)), (25, iv i), (24, iv (n : Int)), (23, .slice a n c), (0, .slice a n c)] w20 (by kernel_rfl) ?_
              refine J.new S23 7 kvD7_1 51 (by kernel_rfl) ?_
              intro b6 w21 S24
              refine J.run 1 K9_34 [(6, iv 3), (7, .pointer (some ⟨b6, 0, none⟩)), (49, .agg #[.string ⟨#[103, 101, 97, 114]⟩, iv 0, iv 6]), (46, iv 3), (45, .agg kvD7_2), (5, .pointer (some ⟨b2, 0, none⟩)), (25, iv i), (24, iv (n : Int)), (23, .slice a n c), (0, .slice a n c)] w21 (by kernel_rfl) ?_
              refine J.stBox S24 0 51 0 (.agg #[.string ⟨#[103, 101, 97, 114]⟩, iv 0, iv 6]) [.string ⟨#[103, 101, 97, 114]⟩, iv 0, iv 6] [box b6 [.string ⟨#[103, 101, 97, 114]⟩, iv 0, iv 6] 51, box b2 [iv (((l.getD (i).toNat dr0)).gAt), iv (((l.getD (i).toNat dr0)).gPedal), iv (((l.getD (i).toNat dr0)).gBrake), iv (((l.getD (i).toNat dr0)).gGear), iv (((l.getD (i).toNat dr0)).gLoad)] 48, box b1 [iv ((l.getD (i).toNat dr0).gAt), iv ((l.getD (i).toNat dr0).gPedal), iv ((l.getD (i).toNat dr0).gBrake), iv ((l.getD (i).toNat dr0).gGear), iv ((l.getD (i).toNat dr0).gLoad)] 27] (by kernel_rfl) rfl (by kernel_rfl) (by kernel_rfl) rfl ?_
              intro w22 S25
              refine J.run 2 K9_35 [(6, iv 3), (7, .pointer (some ⟨b6, 0, none⟩)), (46, iv 3), (45, .agg kvD7_2), (5, .pointer (some ⟨b2, 0, none⟩)), (25, iv i), (24, iv (n : Int)), (23, .slice a n c), (0, .slice a n c)] w22 (by kernel_rfl) ?_
              by_cases fk13 : (((l.getD (i).toNat dr0)).gGear) < 0
              ·skip
               refine J.drawStill S25 14 Tryd.mixed (by kernel_rfl) (by kernel_rfl) (by kernel_rfl) ?_
               intro w23 S26
               refine SL.ok (by decide) (OK.run 50 (iv 3) (by kernel_rfl)) ?_
               refine SL.ok (by decide) (OK.indexP 51 48 5 1 b2 0 3 3 (by kernel_rfl) (by kernel_rfl) (by omega) (by omega)) ?_
               refine SL.head (.pointer (some ⟨b2, 3, none⟩)) (by first | rfl | (rw [Nat.zero_add, Nat.mul_one])) ?_
               refine SL.ok (by decide) (OK.ldBox S26 1 52 3 3 (iv (((l.getD (i).toNat dr0)).gGear)) (by kernel_rfl) rfl (by kernel_rfl)) ?_
               refine SL.ok (by decide) (OK.run 53 (.pointer (some ⟨b6, 1, none⟩)) (by kernel_rfl)) ?_
               refine SL.ok (by decide) (OK.ldBox S26 0 54 3 1 (iv 0) (by kernel_rfl) rfl (by kernel_rfl)) ?_
               refine SL.ok (by decide) (OK.run 55 (.bool (decide ((((l.getD (i).toNat dr0)).gGear) < 0))) (by kernel_rfl)) ?_
               refine SL.head (.bool true) (congrArg Value.bool (decide_eq_true fk13)) ?_
               refine SL.ok (by decide) (OK.run 56 (.bool true) (by kernel_rfl)) ?_
               refine SL.pass (d := some 57) (by decide) (by kernel_rfl) ?_
               refine SL.pass (d := some 58) (by decide) (by kernel_rfl) ?_
               refine SL.pass (d := some 59) (by decide) (by kernel_rfl) ?_
               refine SL.pass (d := some 60) (by decide) (by kernel_rfl) ?_
               refine SL.pass (d := some 61) (by decide) (by kernel_rfl) ?_
               refine SL.pass (d := some 62) (by decide) (by kernel_rfl) ?_
               refine SL.ok (by decide) (OK.run 63 (.bool true) (by kernel_rfl)) ?_
               refine SL.done ?_
               refine TL.done (by kernel_rfl) ?_
               refine J.run 0 (rRest K9_35) [(63, .bool true), (46, iv 3), (45, .agg kvD7_2), (5, .pointer (some ⟨b2, 0, none⟩)), (25, iv i), (24, iv (n : Int)), (23, .slice a n c), (0, .slice a n c)] w23 (by kernel_rfl) ?_
               refine J.run 5 K9_36 [(2, .bool false)] w23 (by kernel_rfl) ?_
               refine J.ret Tryd.f9 [.bool false] Tryd.func9 ⟨by kernel_rfl, trivial⟩ ?_
               refine hR _ _ ?_
               exact ⟨congrArg Value.bool (valid_bad (i := i.toNat) (by omega) (ok_badI h0 (by omega))).symm, S26.nil⟩
              ·skip
               refine J.drawStill S25 14 Tryd.mixed (by kernel_rfl) (by kernel_rfl) (by kernel_rfl) ?_
               intro w24 S27
               refine SL.ok (by decide) (OK.run 50 (iv 3) (by kernel_rfl)) ?_
               refine SL.ok (by decide) (OK.indexP 51 48 5 1 b2 0 3 3 (by kernel_rfl) (by kernel_rfl) (by omega) (by omega)) ?_
               refine SL.head (.pointer (some ⟨b2, 3, none⟩)) (by first | rfl | (rw [Nat.zero_add, Nat.mul_one])) ?_
               refine SL.ok (by decide) (OK.ldBox S27 1 52 3 3 (iv (((l.getD (i).toNat dr0)).gGear)) (by kernel_rfl) rfl (by kernel_rfl)) ?_
               refine SL.ok (by decide) (OK.run 53 (.pointer (some ⟨b6, 1, none⟩)) (by kernel_rfl)) ?_
               refine SL.ok (by decide) (OK.ldBox S27 0 54 3 1 (iv 0) (by kernel_rfl) rfl (by kernel_rfl)) ?_
               refine SL.ok (by decide) (OK.run 55 (.bool (decide ((((l.getD (i).toNat dr0)).gGear) < 0))) (by kernel_rfl)) ?_
               refine SL.head (.bool false) (congrArg Value.bool (decide_eq_false fk13)) ?_
               refine SL.ok (by decide) (OK.run 56 (.bool false) (by kernel_rfl)) ?_
               refine SL.ok (by decide) (OK.run 57 (iv 3) (by kernel_rfl)) ?_
               refine SL.ok (by decide) (OK.indexP 58 48 5 1 b2 0 3 3 (by kernel_rfl) (by kernel_rfl) (by omega) (by omega)) ?_
               refine SL.head (.pointer (some ⟨b2, 3, none⟩)) (by first | rfl | (rw [Nat.zero_add, Nat.mul_one])) ?_
               refine SL.ok (by decide) (OK.ldBox S27 1 59 3 3 (iv (((l.getD (i).toNat dr0)).gGear)) (by kernel_rfl) rfl (by kernel_rfl)) ?_
               refine SL.ok (by decide) (OK.run 60 (.pointer (some ⟨b6, 2, none⟩)) (by kernel_rfl)) ?_
               refine SL.ok (by decide) (OK.ldBox S27 0 61 3 2 (iv 6) (by kernel_rfl) rfl (by kernel_rfl)) ?_
               refine SL.ok (by decide) (OK.run 62 (.bool (decide ((((l.getD (i).toNat dr0)).gGear) > 6))) (by kernel_rfl)) ?_
               refine SL.ok (by decide) (OK.run 63 (.bool (decide ((((l.getD (i).toNat dr0)).gGear) > 6))) (by kernel_rfl)) ?_
               refine SL.done ?_
               refine TL.done (by kernel_rfl) ?_
               refine J.run 0 (rRest K9_35) [(63, .bool (decide ((((l.getD (i).toNat dr0)).gGear) > 6))), (46, iv 3), (45, .agg kvD7_2), (5, .pointer (some ⟨b2, 0, none⟩)), (25, iv i), (24, iv (n : Int)), (23, .slice a n c), (0, .slice a n c)] w24 (by kernel_rfl) ?_
               by_cases fk14 : (((l.getD (i).toNat dr0)).gGear) > 6
               ·skip
                refine J.head (.bool true) (congrArg Value.bool (decide_eq_true fk14)) ?_
                refine J.run 5 K9_37 [(2, .bool false)] w24 (by kernel_rfl) ?_
                refine J.ret Tryd.f9 [.bool false] Tryd.func9 ⟨by kernel_rfl, trivial⟩ ?_
                refine hR _ _ ?_
                exact ⟨congrArg Value.bool (valid_bad (i := i.toNat) (by omega) (ok_badI h0 (by omega))).symm, S27.nil⟩
               ·skip
                refine J.head (.bool false) (congrArg Value.bool (decide_eq_false fk14)) ?_
                refine J.run 8 K9_38 [(46, iv 4), (45, .agg kvD7_2), (5, .pointer (some ⟨b2, 0, none⟩)), (25, iv i), (24, iv (n : Int)), (23, .slice a n c), (0, .slice a n c)] w24 (by kernel_rfl) ?_
                have S28 : Sep w [box b2 [iv (((l.getD (i).toNat dr0)).gAt), iv (((l.getD (i).toNat dr0)).gPedal), iv (((l.getD (i).toNat dr0)).gBrake), iv (((l.getD (i).toNat dr0)).gGear), iv (((l.getD (i).toNat dr0)).gLoad)] 48, box b1 [iv ((l.getD (i).toNat dr0).gAt), iv ((l.getD (i).toNat dr0).gPedal), iv ((l.getD (i).toNat dr0).gBrake), iv ((l.getD (i).toNat dr0).gGear), iv ((l.getD (i).toNat dr0).gLoad)] 27] w24 := S27.erase 0
                clear S27
                refine J.run 13 K9_39 [(49, .agg #[.string ⟨#[108, 111, 97, 100]⟩, iv (-500), iv 2000]), (48, iv 4), (46, iv 4), (45, .agg kvD7_2), (5, .pointer (some ⟨b2, 0, none⟩)), (25, iv i), (24, iv (n : Int)), (23, .slice a n c), (0, .slice a n c)] w24 (by kernel_rfl) ?_
                refine J.new S28 7 kvD7_1 51 (by kernel_rfl) ?_
                intro b7 w25 S29
                refine J.run 1 K9_40 [(6, iv 4), (7, .pointer (some ⟨b7, 0, none⟩)), (49, .agg #[.string ⟨#[108, 111, 97, 100]⟩, iv (-500), iv 2000]), (46, iv 4), (45, .agg kvD7_2), (5, .pointer (some ⟨b2, 0, none⟩)), (25, iv i), (24, iv (n : Int)), (23, .slice a n c), (0, .slice a n c)] w25 (by kernel_rfl) ?_
                refine J.stBox S29 0 51 0 (.agg #[.string ⟨#[108, 111, 97, 100]⟩, iv (-500), iv 2000]) [.string ⟨#[108, 111, 97, 100]⟩, iv (-500), iv 2000] [box b7 [.string ⟨#[108, 111, 97, 100]⟩, iv (-500), iv 2000] 51, box b2 [iv (((l.getD (i).toNat dr0)).gAt), iv (((l.getD (i).toNat dr0)).gPedal), iv (((l.getD (i).toNat dr0)).gBrake), iv (((l.getD (i).toNat dr0)).gGear), iv (((l.getD (i).toNat dr0)).gLoad)] 48, box b1 [iv ((l.getD (i).toNat dr0).gAt), iv ((l.getD (i).toNat dr0).gPedal), iv ((l.getD (i).toNat dr0).gBrake), iv ((l.getD (i).toNat dr0).gGear), iv ((l.getD (i).toNat dr0).gLoad)] 27] (by kernel_rfl) rfl (by kernel_rfl) (by kernel_rfl) rfl ?_
                intro w26 S30
                refine J.run 2 K9_41 [(6, iv 4), (7, .pointer (some ⟨b7, 0, none⟩)), (46, iv 4), (45, .agg kvD7_2), (5, .pointer (some ⟨b2, 0, none⟩)), (25, iv i), (24, iv (n : Int)), (23, .slice a n c), (0, .slice a n c)] w26 (by kernel_rfl) ?_
                by_cases fk15 : (((l.getD (i).toNat dr0)).gLoad) < (-500)
                ·skip
                 refine J.drawStill S30 14 Tryd.mixed (by kernel_rfl) (by kernel_rfl) (by kernel_rfl) ?_
                 intro w27 S31
                 refine SL.ok (by decide) (OK.run 50 (iv 4) (by kernel_rfl)) ?_
                 refine SL.ok (by decide) (OK.indexP 51 48 5 1 b2 0 4 4 (by kernel_rfl) (by kernel_rfl) (by omega) (by omega)) ?_
                 refine SL.head (.pointer (some ⟨b2, 4, none⟩)) (by first | rfl | (rw [Nat.zero_add, Nat.mul_one])) ?_
                 refine SL.ok (by decide) (OK.ldBox S31 1 52 3 4 (iv (((l.getD (i).toNat dr0)).gLoad)) (by kernel_rfl) rfl (by kernel_rfl)) ?_
                 refine SL.ok (by decide) (OK.run 53 (.pointer (some ⟨b7, 1, none⟩)) (by kernel_rfl)) ?_
                 refine SL.ok (by decide) (OK.ldBox S31 0 54 3 1 (iv (-500)) (by kernel_rfl) rfl (by kernel_rfl)) ?_
                 refine SL.ok (by decide) (OK.run 55 (.bool (decide ((((l.getD (i).toNat dr0)).gLoad) < (-500)))) (by kernel_rfl)) ?_
                 refine SL.head (.bool true) (congrArg Value.bool (decide_eq_true fk15)) ?_
                 refine SL.ok (by decide) (OK.run 56 (.bool true) (by kernel_rfl)) ?_
                 refine SL.pass (d := some 57) (by decide) (by kernel_rfl) ?_
                 refine SL.pass (d := some 58) (by decide) (by kernel_rfl) ?_
                 refine SL.pass (d := some 59) (by decide) (by kernel_rfl) ?_
                 refine SL.pass (d := some 60) (by decide) (by kernel_rfl) ?_
                 refine SL.pass (d := some 61) (by decide) (by kernel_rfl) ?_
                 refine SL.pass (d := some 62) (by decide) (by kernel_rfl) ?_
                 refine SL.ok (by decide) (OK.run 63 (.bool true) (by kernel_rfl)) ?_
                 refine SL.done ?_
                 refine TL.done (by kernel_rfl) ?_
                 refine J.run 0 (rRest K9_41) [(63, .bool true), (46, iv 4), (45, .agg kvD7_2), (5, .pointer (some ⟨b2, 0, none⟩)), (25, iv i), (24, iv (n : Int)), (23, .slice a n c), (0, .slice a n c)] w27 (by kernel_rfl) ?_
                 refine J.run 5 K9_42 [(2, .bool false)] w27 (by kernel_rfl) ?_
                 refine J.ret Tryd.f9 [.bool false] Tryd.func9 ⟨by kernel_rfl, trivial⟩ ?_
                 refine hR _ _ ?_
                 exact ⟨congrArg Value.bool (valid_bad (i := i.toNat) (by omega) (ok_badI h0 (by omega))).symm, S31.nil⟩
                ·skip
                 refine J.drawStill S30 14 Tryd.mixed (by kernel_rfl) (by kernel_rfl) (by kernel_rfl) ?_
                 intro w28 S32
                 refine SL.ok (by decide) (OK.run 50 (iv 4) (by kernel_rfl)) ?_
                 refine SL.ok (by decide) (OK.indexP 51 48 5 1 b2 0 4 4 (by kernel_rfl) (by kernel_rfl) (by omega) (by omega)) ?_
                 refine SL.head (.pointer (some ⟨b2, 4, none⟩)) (by first | rfl | (rw [Nat.zero_add, Nat.mul_one])) ?_
                 refine SL.ok (by decide) (OK.ldBox S32 1 52 3 4 (iv (((l.getD (i).toNat dr0)).gLoad)) (by kernel_rfl) rfl (by kernel_rfl)) ?_
                 refine SL.ok (by decide) (OK.run 53 (.pointer (some ⟨b7, 1, none⟩)) (by kernel_rfl)) ?_
                 refine SL.ok (by decide) (OK.ldBox S32 0 54 3 1 (iv (-500)) (by kernel_rfl) rfl (by kernel_rfl)) ?_
                 refine SL.ok (by decide) (OK.run 55 (.bool (decide ((((l.getD (i).toNat dr0)).gLoad) < (-500)))) (by kernel_rfl)) ?_
                 refine SL.head (.bool false) (congrArg Value.bool (decide_eq_false fk15)) ?_
                 refine SL.ok (by decide) (OK.run 56 (.bool false) (by kernel_rfl)) ?_
                 refine SL.ok (by decide) (OK.run 57 (iv 4) (by kernel_rfl)) ?_
                 refine SL.ok (by decide) (OK.indexP 58 48 5 1 b2 0 4 4 (by kernel_rfl) (by kernel_rfl) (by omega) (by omega)) ?_
                 refine SL.head (.pointer (some ⟨b2, 4, none⟩)) (by first | rfl | (rw [Nat.zero_add, Nat.mul_one])) ?_
                 refine SL.ok (by decide) (OK.ldBox S32 1 59 3 4 (iv (((l.getD (i).toNat dr0)).gLoad)) (by kernel_rfl) rfl (by kernel_rfl)) ?_
                 refine SL.ok (by decide) (OK.run 60 (.pointer (some ⟨b7, 2, none⟩)) (by kernel_rfl)) ?_
                 refine SL.ok (by decide) (OK.ldBox S32 0 61 3 2 (iv 2000) (by kernel_rfl) rfl (by kernel_rfl)) ?_
                 refine SL.ok (by decide) (OK.run 62 (.bool (decide ((((l.getD (i).toNat dr0)).gLoad) > 2000))) (by kernel_rfl)) ?_
                 refine SL.ok (by decide) (OK.run 63 (.bool (decide ((((l.getD (i).toNat dr0)).gLoad) > 2000))) (by kernel_rfl)) ?_
                 refine SL.done ?_
                 refine TL.done (by kernel_rfl) ?_
                 refine J.run 0 (rRest K9_41) [(63, .bool (decide ((((l.getD (i).toNat dr0)).gLoad) > 2000))), (46, iv 4), (45, .agg kvD7_2), (5, .pointer (some ⟨b2, 0, none⟩)), (25, iv i), (24, iv (n : Int)), (23, .slice a n c), (0, .slice a n c)] w28 (by kernel_rfl) ?_
                 by_cases fk16 : (((l.getD (i).toNat dr0)).gLoad) > 2000
                 ·skip
                  refine J.head (.bool true) (congrArg Value.bool (decide_eq_true fk16)) ?_
                  refine J.run 5 K9_43 [(2, .bool false)] w28 (by kernel_rfl) ?_
                  refine J.ret Tryd.f9 [.bool false] Tryd.func9 ⟨by kernel_rfl, trivial⟩ ?_
                  refine hR _ _ ?_
                  exact ⟨congrArg Value.bool (valid_bad (i := i.toNat) (by omega) (ok_badI h0 (by omega))).symm, S32.nil⟩
                 ·skip
                  refine J.head (.bool false) (congrArg Value.bool (decide_eq_false fk16)) ?_
                  refine J.run 8 K9_44 [(46, iv 5), (45, .agg kvD7_2), (5, .pointer (some ⟨b2, 0, none⟩)), (25, iv i), (24, iv (n : Int)), (23, .slice a n c), (0, .slice a n c)] w28 (by kernel_rfl) ?_
                  have S33 : Sep w [box b2 [iv (((l.getD (i).toNat dr0)).gAt), iv (((l.getD (i).toNat dr0)).gPedal), iv (((l.getD (i).toNat dr0)).gBrake), iv (((l.getD (i).toNat dr0)).gGear), iv (((l.getD (i).toNat dr0)).gLoad)] 48, box b1 [iv ((l.getD (i).toNat dr0).gAt), iv ((l.getD (i).toNat dr0).gPedal), iv ((l.getD (i).toNat dr0).gBrake), iv ((l.getD (i).toNat dr0).gGear), iv ((l.getD (i).toNat dr0).gLoad)] 27] w28 := S32.erase 0
                  clear S32
                  refine J.run 10 K9_45 [(65, iv (IntKind.wrap .i64 (i + 1))), (24, iv (n : Int)), (23, .slice a n c), (0, .slice a n c)] w28 (by kernel_rfl) ?_
                  refine J.head (iv (i + 1)) (congrArg (Value.int .i64) (IntWalk.i64_in _ (by omega))) ?_
                  refine J.run 3 K9_7 [(25, iv (i + 1)), (24, iv (n : Int)), (23, .slice a n c), (0, .slice a n c)] w28 (by kernel_rfl) ?_
                  have S34 : Sep w [box b2 [iv (((l.getD (i).toNat dr0)).gAt), iv (((l.getD (i).toNat dr0)).gPedal), iv (((l.getD (i).toNat dr0)).gBrake), iv (((l.getD (i).toNat dr0)).gGear), iv (((l.getD (i).toNat dr0)).gLoad)] 48] w28 := S33.erase 1
                  clear S33
                  have S35 : Sep w [] w28 := S34.erase 0
                  clear S34
                  refine J.run 0 K9_7 [(25, iv (i + 1)), (24, iv (n : Int)), (23, .slice a n c), (0, .slice a n c)] w28 (by kernel_rfl) ?_
                  exact ih1 _ (show ((n : Int) - (i + 1)).toNat < mm1 from by omega) (i + 1) w28 (by omega) (by omega) (dg_step (q := fun j => okAt l j = true) h0 hq ((ok_I h0).2 (by omega))) S35 rfl
      ·skip
       refine J.drawStill S3 13 Tryd.mixed (by kernel_rfl) (by kernel_rfl) (by kernel_rfl) ?_
       intro w29 S36
       refine SL.ok (by decide) (OK.run 30 (iv i) (by kernel_rfl)) ?_
       refine SL.ok (by decide) (OK.run 31 (.bool (decide (i > 0))) (by kernel_rfl)) ?_
       refine SL.head (.bool false) (congrArg Value.bool (decide_eq_false fk5)) ?_
       refine SL.ok (by decide) (OK.run 32 (.bool false) (by kernel_rfl)) ?_
       refine SL.pass (d := some 33) (by decide) (by kernel_rfl) ?_
       refine SL.pass (d := some 34) (by decide) (by kernel_rfl) ?_
       refine SL.pass (d := some 35) (by decide) (by kernel_rfl) ?_
       refine SL.pass (d := some 36) (by decide) (by kernel_rfl) ?_
       refine SL.pass (d := some 37) (by decide) (by kernel_rfl) ?_
       refine SL.pass (d := some 38) (by decide) (by kernel_rfl) ?_
       refine SL.pass (d := some 39) (by decide) (by kernel_rfl) ?_
       refine SL.pass (d := some 40) (by decide) (by kernel_rfl) ?_
       refine SL.pass (d := some 41) (by decide) (by kernel_rfl) ?_
       refine SL.ok (by decide) (OK.run 42 (.bool false) (by kernel_rfl)) ?_
       refine SL.done ?_
       refine TL.done (by kernel_rfl) ?_
       refine J.run 0 (rRest K9_11) [(42, .bool false), (4, .pointer (some ⟨b1, 0, none⟩)), (25, iv i), (24, iv (n : Int)), (23, .slice a n c), (0, .slice a n c)] w29 (by kernel_rfl) ?_
       refine J.run 4 K9_46 [(4, .pointer (some ⟨b1, 0, none⟩)), (25, iv i), (24, iv (n : Int)), (23, .slice a n c), (0, .slice a n c)] w29 (by kernel_rfl) ?_
       refine J.ok (OK.ldBox S36 0 43 27 0 (.agg #[iv ((l.getD (i).toNat dr0).gAt), iv ((l.getD (i).toNat dr0).gPedal), iv ((l.getD (i).toNat dr0).gBrake), iv ((l.getD (i).toNat dr0).gGear), iv ((l.getD (i).toNat dr0).gLoad)]) (by kernel_rfl) rfl (by kernel_rfl)) ?_
       refine J.callF 44 23 #[.agg #[iv ((l.getD (i).toNat dr0).gAt), iv ((l.getD (i).toNat dr0).gPedal), iv ((l.getD (i).toNat dr0).gBrake), iv ((l.getD (i).toNat dr0).gGear), iv ((l.getD (i).toNat dr0).gLoad)]] hb23 (by kernel_rfl) (numbers_any (l.getD (i).toNat dr0) _) ?_
       rintro _ w30 ⟨rfl, T3⟩
       have S37 : Sep w [box b1 [iv ((l.getD (i).toNat dr0).gAt), iv ((l.getD (i).toNat dr0).gPedal), iv ((l.getD (i).toNat dr0).gBrake), iv ((l.getD (i).toNat dr0).gGear), iv ((l.getD (i).toNat dr0).gLoad)] 27] w30 := S36.trans T3
       clear T3 S36
       refine J.new S37 5 [iv 0, iv 0, iv 0, iv 0, iv 0] 48 (by kernel_rfl) ?_
       intro b8 w31 S38
       refine J.stBox S38 0 48 0 (.agg #[iv (((l.getD (i).toNat dr0)).gAt), iv (((l.getD (i).toNat dr0)).gPedal), iv (((l.getD (i).toNat dr0)).gBrake), iv (((l.getD (i).toNat dr0)).gGear), iv (((l.getD (i).toNat dr0)).gLoad)]) [iv (((l.getD (i).toNat dr0)).gAt), iv (((l.getD (i).toNat dr0)).gPedal), iv (((l.getD (i).toNat dr0)).gBrake), iv (((l.getD (i).toNat dr0)).gGear), iv (((l.getD (i).toNat dr0)).gLoad)] [box b8 [iv (((l.getD (i).toNat dr0)).gAt), iv (((l.getD (i).toNat dr0)).gPedal), iv (((l.getD (i).toNat dr0)).gBrake), iv (((l.getD (i).toNat dr0)).gGear), iv (((l.getD (i).toNat dr0)).gLoad)] 48, box b1 [iv ((l.getD (i).toNat dr0).gAt), iv ((l.getD (i).toNat dr0).gPedal), iv ((l.getD (i).toNat dr0).gBrake), iv ((l.getD (i).toNat dr0).gGear), iv ((l.getD (i).toNat dr0).gLoad)] 27] (by kernel_rfl) rfl (by kernel_rfl) (by kernel_rfl) rfl ?_
       intro w32 S39
       refine J.run 3 K9_47 [(5, .pointer (some ⟨b8, 0, none⟩)), (25, iv i), (24, iv (n : Int)), (23, .slice a n c), (0, .slice a n c)] w32 (by kernel_rfl) ?_
       refine J.callF 45 24 #[] hb24 (by kernel_rfl) (parts_any  _) ?_
       rintro _ w33 ⟨rfl, T4⟩
       have S40 : Sep w [box b8 [iv (((l.getD (i).toNat dr0)).gAt), iv (((l.getD (i).toNat dr0)).gPedal), iv (((l.getD (i).toNat dr0)).gBrake), iv (((l.getD (i).toNat dr0)).gGear), iv (((l.getD (i).toNat dr0)).gLoad)] 48, box b1 [iv ((l.getD (i).toNat dr0).gAt), iv ((l.getD (i).toNat dr0).gPedal), iv ((l.getD (i).toNat dr0).gBrake), iv ((l.getD (i).toNat dr0).gGear), iv ((l.getD (i).toNat dr0).gLoad)] 27] w33 := S39.trans T4
       clear T4 S39
       refine J.run 17 K9_48 [(49, .agg #[.string ⟨#[97, 116]⟩, iv 0, iv 1099511627776]), (48, iv 0), (46, iv 0), (45, .agg kvD7_2), (5, .pointer (some ⟨b8, 0, none⟩)), (25, iv i), (24, iv (n : Int)), (23, .slice a n c), (0, .slice a n c)] w33 (by kernel_rfl) ?_
       refine J.new S40 7 kvD7_1 51 (by kernel_rfl) ?_
       intro b9 w34 S41
       refine J.run 1 K9_49 [(6, iv 0), (7, .pointer (some ⟨b9, 0, none⟩)), (49, .agg #[.string ⟨#[97, 116]⟩, iv 0, iv 1099511627776]), (46, iv 0), (45, .agg kvD7_2), (5, .pointer (some ⟨b8, 0, none⟩)), (25, iv i), (24, iv (n : Int)), (23, .slice a n c), (0, .slice a n c)] w34 (by kernel_rfl) ?_
       refine J.stBox S41 0 51 0 (.agg #[.string ⟨#[97, 116]⟩, iv 0, iv 1099511627776]) [.string ⟨#[97, 116]⟩, iv 0, iv 1099511627776] [box b9 [.string ⟨#[97, 116]⟩, iv 0, iv 1099511627776] 51, box b8 [iv (((l.getD (i).toNat dr0)).gAt), iv (((l.getD (i).toNat dr0)).gPedal), iv (((l.getD (i).toNat dr0)).gBrake), iv (((l.getD (i).toNat dr0)).gGear), iv (((l.getD (i).toNat dr0)).gLoad)] 48, box b1 [iv ((l.getD (i).toNat dr0).gAt), iv ((l.getD (i).toNat dr0).gPedal), iv ((l.getD (i).toNat dr0).gBrake), iv ((l.getD (i).toNat dr0).gGear), iv ((l.getD (i).toNat dr0).gLoad)] 27] (by kernel_rfl) rfl (by kernel_rfl) (by kernel_rfl) rfl ?_
       intro w35 S42
       refine J.run 2 K9_50 [(6, iv 0), (7, .pointer (some ⟨b9, 0, none⟩)), (46, iv 0), (45, .agg kvD7_2), (5, .pointer (some ⟨b8, 0, none⟩)), (25, iv i), (24, iv (n : Int)), (23, .slice a n c), (0, .slice a n c)] w35 (by kernel_rfl) ?_
       by_cases fk17 : (((l.getD (i).toNat dr0)).gAt) < 0
       ·skip
        refine J.drawStill S42 14 Tryd.mixed (by kernel_rfl) (by kernel_rfl) (by kernel_rfl) ?_
        intro w36 S43
        refine SL.ok (by decide) (OK.run 50 (iv 0) (by kernel_rfl)) ?_
        refine SL.ok (by decide) (OK.indexP 51 48 5 1 b8 0 0 0 (by kernel_rfl) (by kernel_rfl) (by omega) (by omega)) ?_
        refine SL.head (.pointer (some ⟨b8, 0, none⟩)) (by first | rfl | (rw [Nat.zero_add, Nat.mul_one])) ?_
        refine SL.ok (by decide) (OK.ldBox S43 1 52 3 0 (iv (((l.getD (i).toNat dr0)).gAt)) (by kernel_rfl) rfl (by kernel_rfl)) ?_
        refine SL.ok (by decide) (OK.run 53 (.pointer (some ⟨b9, 1, none⟩)) (by kernel_rfl)) ?_
        refine SL.ok (by decide) (OK.ldBox S43 0 54 3 1 (iv 0) (by kernel_rfl) rfl (by kernel_rfl)) ?_
        refine SL.ok (by decide) (OK.run 55 (.bool (decide ((((l.getD (i).toNat dr0)).gAt) < 0))) (by kernel_rfl)) ?_
        refine SL.head (.bool true) (congrArg Value.bool (decide_eq_true fk17)) ?_
        refine SL.ok (by decide) (OK.run 56 (.bool true) (by kernel_rfl)) ?_
        refine SL.pass (d := some 57) (by decide) (by kernel_rfl) ?_
        refine SL.pass (d := some 58) (by decide) (by kernel_rfl) ?_
        refine SL.pass (d := some 59) (by decide) (by kernel_rfl) ?_
        refine SL.pass (d := some 60) (by decide) (by kernel_rfl) ?_
        refine SL.pass (d := some 61) (by decide) (by kernel_rfl) ?_
        refine SL.pass (d := some 62) (by decide) (by kernel_rfl) ?_
        refine SL.ok (by decide) (OK.run 63 (.bool true) (by kernel_rfl)) ?_
        refine SL.done ?_
        refine TL.done (by kernel_rfl) ?_
        refine J.run 0 (rRest K9_50) [(63, .bool true), (46, iv 0), (45, .agg kvD7_2), (5, .pointer (some ⟨b8, 0, none⟩)), (25, iv i), (24, iv (n : Int)), (23, .slice a n c), (0, .slice a n c)] w36 (by kernel_rfl) ?_
        refine J.run 5 K9_51 [(2, .bool false)] w36 (by kernel_rfl) ?_
        refine J.ret Tryd.f9 [.bool false] Tryd.func9 ⟨by kernel_rfl, trivial⟩ ?_
        refine hR _ _ ?_
        exact ⟨congrArg Value.bool (valid_bad (i := i.toNat) (by omega) (ok_badI h0 (by omega))).symm, S43.nil⟩
       ·skip
        refine J.drawStill S42 14 Tryd.mixed (by kernel_rfl) (by kernel_rfl) (by kernel_rfl) ?_
        intro w37 S44
        refine SL.ok (by decide) (OK.run 50 (iv 0) (by kernel_rfl)) ?_
        refine SL.ok (by decide) (OK.indexP 51 48 5 1 b8 0 0 0 (by kernel_rfl) (by kernel_rfl) (by omega) (by omega)) ?_
        refine SL.head (.pointer (some ⟨b8, 0, none⟩)) (by first | rfl | (rw [Nat.zero_add, Nat.mul_one])) ?_
        refine SL.ok (by decide) (OK.ldBox S44 1 52 3 0 (iv (((l.getD (i).toNat dr0)).gAt)) (by kernel_rfl) rfl (by kernel_rfl)) ?_
        refine SL.ok (by decide) (OK.run 53 (.pointer (some ⟨b9, 1, none⟩)) (by kernel_rfl)) ?_
        refine SL.ok (by decide) (OK.ldBox S44 0 54 3 1 (iv 0) (by kernel_rfl) rfl (by kernel_rfl)) ?_
        refine SL.ok (by decide) (OK.run 55 (.bool (decide ((((l.getD (i).toNat dr0)).gAt) < 0))) (by kernel_rfl)) ?_
        refine SL.head (.bool false) (congrArg Value.bool (decide_eq_false fk17)) ?_
        refine SL.ok (by decide) (OK.run 56 (.bool false) (by kernel_rfl)) ?_
        refine SL.ok (by decide) (OK.run 57 (iv 0) (by kernel_rfl)) ?_
        refine SL.ok (by decide) (OK.indexP 58 48 5 1 b8 0 0 0 (by kernel_rfl) (by kernel_rfl) (by omega) (by omega)) ?_
        refine SL.head (.pointer (some ⟨b8, 0, none⟩)) (by first | rfl | (rw [Nat.zero_add, Nat.mul_one])) ?_
        refine SL.ok (by decide) (OK.ldBox S44 1 59 3 0 (iv (((l.getD (i).toNat dr0)).gAt)) (by kernel_rfl) rfl (by kernel_rfl)) ?_
        refine SL.ok (by decide) (OK.run 60 (.pointer (some ⟨b9, 2, none⟩)) (by kernel_rfl)) ?_
        refine SL.ok (by decide) (OK.ldBox S44 0 61 3 2 (iv 1099511627776) (by kernel_rfl) rfl (by kernel_rfl)) ?_
        refine SL.ok (by decide) (OK.run 62 (.bool (decide ((((l.getD (i).toNat dr0)).gAt) > 1099511627776))) (by kernel_rfl)) ?_
        refine SL.ok (by decide) (OK.run 63 (.bool (decide ((((l.getD (i).toNat dr0)).gAt) > 1099511627776))) (by kernel_rfl)) ?_
        refine SL.done ?_
        refine TL.done (by kernel_rfl) ?_
        refine J.run 0 (rRest K9_50) [(63, .bool (decide ((((l.getD (i).toNat dr0)).gAt) > 1099511627776))), (46, iv 0), (45, .agg kvD7_2), (5, .pointer (some ⟨b8, 0, none⟩)), (25, iv i), (24, iv (n : Int)), (23, .slice a n c), (0, .slice a n c)] w37 (by kernel_rfl) ?_
        by_cases fk18 : (((l.getD (i).toNat dr0)).gAt) > 1099511627776
        ·skip
         refine J.head (.bool true) (congrArg Value.bool (decide_eq_true fk18)) ?_
         refine J.run 5 K9_52 [(2, .bool false)] w37 (by kernel_rfl) ?_
         refine J.ret Tryd.f9 [.bool false] Tryd.func9 ⟨by kernel_rfl, trivial⟩ ?_
         refine hR _ _ ?_
         exact ⟨congrArg Value.bool (valid_bad (i := i.toNat) (by omega) (ok_badI h0 (by omega))).symm, S44.nil⟩
        ·skip
         refine J.head (.bool false) (congrArg Value.bool (decide_eq_false fk18)) ?_
         refine J.run 8 K9_53 [(46, iv 1), (45, .agg kvD7_2), (5, .pointer (some ⟨b8, 0, none⟩)), (25, iv i), (24, iv (n : Int)), (23, .slice a n c), (0, .slice a n c)] w37 (by kernel_rfl) ?_
         have S45 : Sep w [box b8 [iv (((l.getD (i).toNat dr0)).gAt), iv (((l.getD (i).toNat dr0)).gPedal), iv (((l.getD (i).toNat dr0)).gBrake), iv (((l.getD (i).toNat dr0)).gGear), iv (((l.getD (i).toNat dr0)).gLoad)] 48, box b1 [iv ((l.getD (i).toNat dr0).gAt), iv ((l.getD (i).toNat dr0).gPedal), iv ((l.getD (i).toNat dr0).gBrake), iv ((l.getD (i).toNat dr0).gGear), iv ((l.getD (i).toNat dr0).gLoad)] 27] w37 := S44.erase 0
         clear S44
         refine J.run 13 K9_54 [(49, .agg #[.string ⟨#[112, 101, 100, 97, 108]⟩, iv 0, iv 1000]), (48, iv 1), (46, iv 1), (45, .agg kvD7_2), (5, .pointer (some ⟨b8, 0, none⟩)), (25, iv i), (24, iv (n : Int)), (23, .slice a n c), (0, .slice a n c)] w37 (by kernel_rfl) ?_
         refine J.new S45 7 kvD7_1 51 (by kernel_rfl) ?_
         intro b10 w38 S46
         refine J.run 1 K9_55 [(6, iv 1), (7, .pointer (some ⟨b10, 0, none⟩)), (49, .agg #[.string ⟨#[112, 101, 100, 97, 108]⟩, iv 0, iv 1000]), (46, iv 1), (45, .agg kvD7_2), (5, .pointer (some ⟨b8, 0, none⟩)), (25, iv i), (24, iv (n : Int)), (23, .slice a n c), (0, .slice a n c)] w38 (by kernel_rfl) ?_
         refine J.stBox S46 0 51 0 (.agg #[.string ⟨#[112, 101, 100, 97, 108]⟩, iv 0, iv 1000]) [.string ⟨#[112, 101, 100, 97, 108]⟩, iv 0, iv 1000] [box b10 [.string ⟨#[112, 101, 100, 97, 108]⟩, iv 0, iv 1000] 51, box b8 [iv (((l.getD (i).toNat dr0)).gAt), iv (((l.getD (i).toNat dr0)).gPedal), iv (((l.getD (i).toNat dr0)).gBrake), iv (((l.getD (i).toNat dr0)).gGear), iv (((l.getD (i).toNat dr0)).gLoad)] 48, box b1 [iv ((l.getD (i).toNat dr0).gAt), iv ((l.getD (i).toNat dr0).gPedal), iv ((l.getD (i).toNat dr0).gBrake), iv ((l.getD (i).toNat dr0).gGear), iv ((l.getD (i).toNat dr0).gLoad)] 27] (by kernel_rfl) rfl (by kernel_rfl) (by kernel_rfl) rfl ?_
         intro w39 S47
         refine J.run 2 K9_56 [(6, iv 1), (7, .pointer (some ⟨b10, 0, none⟩)), (46, iv 1), (45, .agg kvD7_2), (5, .pointer (some ⟨b8, 0, none⟩)), (25, iv i), (24, iv (n : Int)), (23, .slice a n c), (0, .slice a n c)] w39 (by kernel_rfl) ?_
         by_cases fk19 : (((l.getD (i).toNat dr0)).gPedal) < 0
         ·skip
          refine J.drawStill S47 14 Tryd.mixed (by kernel_rfl) (by kernel_rfl) (by kernel_rfl) ?_
          intro w40 S48
          refine SL.ok (by decide) (OK.run 50 (iv 1) (by kernel_rfl)) ?_
          refine SL.ok (by decide) (OK.indexP 51 48 5 1 b8 0 1 1 (by kernel_rfl) (by kernel_rfl) (by omega) (by omega)) ?_
          refine SL.head (.pointer (some ⟨b8, 1, none⟩)) (by first | rfl | (rw [Nat.zero_add, Nat.mul_one])) ?_
          refine SL.ok (by decide) (OK.ldBox S48 1 52 3 1 (iv (((l.getD (i).toNat dr0)).gPedal)) (by kernel_rfl) rfl (by kernel_rfl)) ?_
          refine SL.ok (by decide) (OK.run 53 (.pointer (some ⟨b10, 1, none⟩)) (by kernel_rfl)) ?_
          refine SL.ok (by decide) (OK.ldBox S48 0 54 3 1 (iv 0) (by kernel_rfl) rfl (by kernel_rfl)) ?_
          refine SL.ok (by decide) (OK.run 55 (.bool (decide ((((l.getD (i).toNat dr0)).gPedal) < 0))) (by kernel_rfl)) ?_
          refine SL.head (.bool true) (congrArg Value.bool (decide_eq_true fk19)) ?_
          refine SL.ok (by decide) (OK.run 56 (.bool true) (by kernel_rfl)) ?_
          refine SL.pass (d := some 57) (by decide) (by kernel_rfl) ?_
          refine SL.pass (d := some 58) (by decide) (by kernel_rfl) ?_
          refine SL.pass (d := some 59) (by decide) (by kernel_rfl) ?_
          refine SL.pass (d := some 60) (by decide) (by kernel_rfl) ?_
          refine SL.pass (d := some 61) (by decide) (by kernel_rfl) ?_
          refine SL.pass (d := some 62) (by decide) (by kernel_rfl) ?_
          refine SL.ok (by decide) (OK.run 63 (.bool true) (by kernel_rfl)) ?_
          refine SL.done ?_
          refine TL.done (by kernel_rfl) ?_
          refine J.run 0 (rRest K9_56) [(63, .bool true), (46, iv 1), (45, .agg kvD7_2), (5, .pointer (some ⟨b8, 0, none⟩)), (25, iv i), (24, iv (n : Int)), (23, .slice a n c), (0, .slice a n c)] w40 (by kernel_rfl) ?_
          refine J.run 5 K9_57 [(2, .bool false)] w40 (by kernel_rfl) ?_
          refine J.ret Tryd.f9 [.bool false] Tryd.func9 ⟨by kernel_rfl, trivial⟩ ?_
          refine hR _ _ ?_
          exact ⟨congrArg Value.bool (valid_bad (i := i.toNat) (by omega) (ok_badI h0 (by omega))).symm, S48.nil⟩
         ·skip
          refine J.drawStill S47 14 Tryd.mixed (by kernel_rfl) (by kernel_rfl) (by kernel_rfl) ?_
          intro w41 S49
          refine SL.ok (by decide) (OK.run 50 (iv 1) (by kernel_rfl)) ?_
          refine SL.ok (by decide) (OK.indexP 51 48 5 1 b8 0 1 1 (by kernel_rfl) (by kernel_rfl) (by omega) (by omega)) ?_
          refine SL.head (.pointer (some ⟨b8, 1, none⟩)) (by first | rfl | (rw [Nat.zero_add, Nat.mul_one])) ?_
          refine SL.ok (by decide) (OK.ldBox S49 1 52 3 1 (iv (((l.getD (i).toNat dr0)).gPedal)) (by kernel_rfl) rfl (by kernel_rfl)) ?_
          refine SL.ok (by decide) (OK.run 53 (.pointer (some ⟨b10, 1, none⟩)) (by kernel_rfl)) ?_
          refine SL.ok (by decide) (OK.ldBox S49 0 54 3 1 (iv 0) (by kernel_rfl) rfl (by kernel_rfl)) ?_
          refine SL.ok (by decide) (OK.run 55 (.bool (decide ((((l.getD (i).toNat dr0)).gPedal) < 0))) (by kernel_rfl)) ?_
          refine SL.head (.bool false) (congrArg Value.bool (decide_eq_false fk19)) ?_
          refine SL.ok (by decide) (OK.run 56 (.bool false) (by kernel_rfl)) ?_
          refine SL.ok (by decide) (OK.run 57 (iv 1) (by kernel_rfl)) ?_
          refine SL.ok (by decide) (OK.indexP 58 48 5 1 b8 0 1 1 (by kernel_rfl) (by kernel_rfl) (by omega) (by omega)) ?_
          refine SL.head (.pointer (some ⟨b8, 1, none⟩)) (by first | rfl | (rw [Nat.zero_add, Nat.mul_one])) ?_
          refine SL.ok (by decide) (OK.ldBox S49 1 59 3 1 (iv (((l.getD (i).toNat dr0)).gPedal)) (by kernel_rfl) rfl (by kernel_rfl)) ?_
          refine SL.ok (by decide) (OK.run 60 (.pointer (some ⟨b10, 2, none⟩)) (by kernel_rfl)) ?_
          refine SL.ok (by decide) (OK.ldBox S49 0 61 3 2 (iv 1000) (by kernel_rfl) rfl (by kernel_rfl)) ?_
          refine SL.ok (by decide) (OK.run 62 (.bool (decide ((((l.getD (i).toNat dr0)).gPedal) > 1000))) (by kernel_rfl)) ?_
          refine SL.ok (by decide) (OK.run 63 (.bool (decide ((((l.getD (i).toNat dr0)).gPedal) > 1000))) (by kernel_rfl)) ?_
          refine SL.done ?_
          refine TL.done (by kernel_rfl) ?_
          refine J.run 0 (rRest K9_56) [(63, .bool (decide ((((l.getD (i).toNat dr0)).gPedal) > 1000))), (46, iv 1), (45, .agg kvD7_2), (5, .pointer (some ⟨b8, 0, none⟩)), (25, iv i), (24, iv (n : Int)), (23, .slice a n c), (0, .slice a n c)] w41 (by kernel_rfl) ?_
          by_cases fk20 : (((l.getD (i).toNat dr0)).gPedal) > 1000
          ·skip
           refine J.head (.bool true) (congrArg Value.bool (decide_eq_true fk20)) ?_
           refine J.run 5 K9_58 [(2, .bool false)] w41 (by kernel_rfl) ?_
           refine J.ret Tryd.f9 [.bool false] Tryd.func9 ⟨by kernel_rfl, trivial⟩ ?_
           refine hR _ _ ?_
           exact ⟨congrArg Value.bool (valid_bad (i := i.toNat) (by omega) (ok_badI h0 (by omega))).symm, S49.nil⟩
          ·skip
           refine J.head (.bool false) (congrArg Value.bool (decide_eq_false fk20)) ?_
           refine J.run 8 K9_59 [(46, iv 2), (45, .agg kvD7_2), (5, .pointer (some ⟨b8, 0, none⟩)), (25, iv i), (24, iv (n : Int)), (23, .slice a n c), (0, .slice a n c)] w41 (by kernel_rfl) ?_
           have S50 : Sep w [box b8 [iv (((l.getD (i).toNat dr0)).gAt), iv (((l.getD (i).toNat dr0)).gPedal), iv (((l.getD (i).toNat dr0)).gBrake), iv (((l.getD (i).toNat dr0)).gGear), iv (((l.getD (i).toNat dr0)).gLoad)] 48, box b1 [iv ((l.getD (i).toNat dr0).gAt), iv ((l.getD (i).toNat dr0).gPedal), iv ((l.getD (i).toNat dr0).gBrake), iv ((l.getD (i).toNat dr0).gGear), iv ((l.getD (i).toNat dr0).gLoad)] 27] w41 := S49.erase 0
           clear S49
           refine J.run 13 K9_60 [(49, .agg #[.string ⟨#[98, 114, 97, 107, 101]⟩, iv 0, iv 1000]), (48, iv 2), (46, iv 2), (45, .agg kvD7_2), (5, .pointer (some ⟨b8, 0, none⟩)), (25, iv i), (24, iv (n : Int)), (23, .slice a n c), (0, .slice a n c)] w41 (by kernel_rfl) ?_
           refine J.new S50 7 kvD7_1 51 (by kernel_rfl) ?_
           intro b11 w42 S51
           refine J.run 1 K9_61 [(6, iv 2), (7, .pointer (some ⟨b11, 0, none⟩)), (49, .agg #[.string ⟨#[98, 114, 97, 107, 101]⟩, iv 0, iv 1000]), (46, iv 2), (45, .agg kvD7_2), (5, .pointer (some ⟨b8, 0, none⟩)), (25, iv i), (24, iv (n : Int)), (23, .slice a n c), (0, .slice a n c)] w42 (by kernel_rfl) ?_
           refine J.stBox S51 0 51 0 (.agg #[.string ⟨#[98, 114, 97, 107, 101]⟩, iv 0, iv 1000]) [.string ⟨#[98, 114, 97, 107, 101]⟩, iv 0, iv 1000] [box b11 [.string ⟨#[98, 114, 97, 107, 101]⟩, iv 0, iv 1000] 51, box b8 [iv (((l.getD (i).toNat dr0)).gAt), iv (((l.getD (i).toNat dr0)).gPedal), iv (((l.getD (i).toNat dr0)).gBrake), iv (((l.getD (i).toNat dr0)).gGear), iv (((l.getD (i).toNat dr0)).gLoad)] 48, box b1 [iv ((l.getD (i).toNat dr0).gAt), iv ((l.getD (i).toNat dr0).gPedal), iv ((l.getD (i).toNat dr0).gBrake), iv ((l.getD (i).toNat dr0).gGear), iv ((l.getD (i).toNat dr0).gLoad)] 27] (by kernel_rfl) rfl (by kernel_rfl) (by kernel_rfl) rfl ?_
           intro w43 S52
           refine J.run 2 K9_62 [(6, iv 2), (7, .pointer (some ⟨b11, 0, none⟩)), (46, iv 2), (45, .agg kvD7_2), (5, .pointer (some ⟨b8, 0, none⟩)), (25, iv i), (24, iv (n : Int)), (23, .slice a n c), (0, .slice a n c)] w43 (by kernel_rfl) ?_
           by_cases fk21 : (((l.getD (i).toNat dr0)).gBrake) < 0
           ·skip
            refine J.drawStill S52 14 Tryd.mixed (by kernel_rfl) (by kernel_rfl) (by kernel_rfl) ?_
            intro w44 S53
            refine SL.ok (by decide) (OK.run 50 (iv 2) (by kernel_rfl)) ?_
            refine SL.ok (by decide) (OK.indexP 51 48 5 1 b8 0 2 2 (by kernel_rfl) (by kernel_rfl) (by omega) (by omega)) ?_
            refine SL.head (.pointer (some ⟨b8, 2, none⟩)) (by first | rfl | (rw [Nat.zero_add, Nat.mul_one])) ?_
            refine SL.ok (by decide) (OK.ldBox S53 1 52 3 2 (iv (((l.getD (i).toNat dr0)).gBrake)) (by kernel_rfl) rfl (by kernel_rfl)) ?_
            refine SL.ok (by decide) (OK.run 53 (.pointer (some ⟨b11, 1, none⟩)) (by kernel_rfl)) ?_
            refine SL.ok (by decide) (OK.ldBox S53 0 54 3 1 (iv 0) (by kernel_rfl) rfl (by kernel_rfl)) ?_
            refine SL.ok (by decide) (OK.run 55 (.bool (decide ((((l.getD (i).toNat dr0)).gBrake) < 0))) (by kernel_rfl)) ?_
            refine SL.head (.bool true) (congrArg Value.bool (decide_eq_true fk21)) ?_
            refine SL.ok (by decide) (OK.run 56 (.bool true) (by kernel_rfl)) ?_
            refine SL.pass (d := some 57) (by decide) (by kernel_rfl) ?_
            refine SL.pass (d := some 58) (by decide) (by kernel_rfl) ?_
            refine SL.pass (d := some 59) (by decide) (by kernel_rfl) ?_
            refine SL.pass (d := some 60) (by decide) (by kernel_rfl) ?_
            refine SL.pass (d := some 61) (by decide) (by kernel_rfl) ?_
            refine SL.pass (d := some 62) (by decide) (by kernel_rfl) ?_
            refine SL.ok (by decide) (OK.run 63 (.bool true) (by kernel_rfl)) ?_
            refine SL.done ?_
            refine TL.done (by kernel_rfl) ?_
            refine J.run 0 (rRest K9_62) [(63, .bool true), (46, iv 2), (45, .agg kvD7_2), (5, .pointer (some ⟨b8, 0, none⟩)), (25, iv i), (24, iv (n : Int)), (23, .slice a n c), (0, .slice a n c)] w44 (by kernel_rfl) ?_
            refine J.run 5 K9_63 [(2, .bool false)] w44 (by kernel_rfl) ?_
            refine J.ret Tryd.f9 [.bool false] Tryd.func9 ⟨by kernel_rfl, trivial⟩ ?_
            refine hR _ _ ?_
            exact ⟨congrArg Value.bool (valid_bad (i := i.toNat) (by omega) (ok_badI h0 (by omega))).symm, S53.nil⟩
           ·skip
            refine J.drawStill S52 14 Tryd.mixed (by kernel_rfl) (by kernel_rfl) (by kernel_rfl) ?_
            intro w45 S54
            refine SL.ok (by decide) (OK.run 50 (iv 2) (by kernel_rfl)) ?_
            refine SL.ok (by decide) (OK.indexP 51 48 5 1 b8 0 2 2 (by kernel_rfl) (by kernel_rfl) (by omega) (by omega)) ?_
            refine SL.head (.pointer (some ⟨b8, 2, none⟩)) (by first | rfl | (rw [Nat.zero_add, Nat.mul_one])) ?_
            refine SL.ok (by decide) (OK.ldBox S54 1 52 3 2 (iv (((l.getD (i).toNat dr0)).gBrake)) (by kernel_rfl) rfl (by kernel_rfl)) ?_
            refine SL.ok (by decide) (OK.run 53 (.pointer (some ⟨b11, 1, none⟩)) (by kernel_rfl)) ?_
            refine SL.ok (by decide) (OK.ldBox S54 0 54 3 1 (iv 0) (by kernel_rfl) rfl (by kernel_rfl)) ?_
            refine SL.ok (by decide) (OK.run 55 (.bool (decide ((((l.getD (i).toNat dr0)).gBrake) < 0))) (by kernel_rfl)) ?_
            refine SL.head (.bool false) (congrArg Value.bool (decide_eq_false fk21)) ?_
            refine SL.ok (by decide) (OK.run 56 (.bool false) (by kernel_rfl)) ?_
            refine SL.ok (by decide) (OK.run 57 (iv 2) (by kernel_rfl)) ?_
            refine SL.ok (by decide) (OK.indexP 58 48 5 1 b8 0 2 2 (by kernel_rfl) (by kernel_rfl) (by omega) (by omega)) ?_
            refine SL.head (.pointer (some ⟨b8, 2, none⟩)) (by first | rfl | (rw [Nat.zero_add, Nat.mul_one])) ?_
            refine SL.ok (by decide) (OK.ldBox S54 1 59 3 2 (iv (((l.getD (i).toNat dr0)).gBrake)) (by kernel_rfl) rfl (by kernel_rfl)) ?_
            refine SL.ok (by decide) (OK.run 60 (.pointer (some ⟨b11, 2, none⟩)) (by kernel_rfl)) ?_
            refine SL.ok (by decide) (OK.ldBox S54 0 61 3 2 (iv 1000) (by kernel_rfl) rfl (by kernel_rfl)) ?_
            refine SL.ok (by decide) (OK.run 62 (.bool (decide ((((l.getD (i).toNat dr0)).gBrake) > 1000))) (by kernel_rfl)) ?_
            refine SL.ok (by decide) (OK.run 63 (.bool (decide ((((l.getD (i).toNat dr0)).gBrake) > 1000))) (by kernel_rfl)) ?_
            refine SL.done ?_
            refine TL.done (by kernel_rfl) ?_
            refine J.run 0 (rRest K9_62) [(63, .bool (decide ((((l.getD (i).toNat dr0)).gBrake) > 1000))), (46, iv 2), (45, .agg kvD7_2), (5, .pointer (some ⟨b8, 0, none⟩)), (25, iv i), (24, iv (n : Int)), (23, .slice a n c), (0, .slice a n c)] w45 (by kernel_rfl) ?_
            by_cases fk22 : (((l.getD (i).toNat dr0)).gBrake) > 1000
            ·skip
             refine J.head (.bool true) (congrArg Value.bool (decide_eq_true fk22)) ?_
             refine J.run 5 K9_64 [(2, .bool false)] w45 (by kernel_rfl) ?_
             refine J.ret Tryd.f9 [.bool false] Tryd.func9 ⟨by kernel_rfl, trivial⟩ ?_
             refine hR _ _ ?_
             exact ⟨congrArg Value.bool (valid_bad (i := i.toNat) (by omega) (ok_badI h0 (by omega))).symm, S54.nil⟩
            ·skip
             refine J.head (.bool false) (congrArg Value.bool (decide_eq_false fk22)) ?_
             refine J.run 8 K9_65 [(46, iv 3), (45, .agg kvD7_2), (5, .pointer (some ⟨b8, 0, none⟩)), (25, iv i), (24, iv (n : Int)), (23, .slice a n c), (0, .slice a n c)] w45 (by kernel_rfl) ?_
             have S55 : Sep w [box b8 [iv (((l.getD (i).toNat dr0)).gAt), iv (((l.getD (i).toNat dr0)).gPedal), iv (((l.getD (i).toNat dr0)).gBrake), iv (((l.getD (i).toNat dr0)).gGear), iv (((l.getD (i).toNat dr0)).gLoad)] 48, box b1 [iv ((l.getD (i).toNat dr0).gAt), iv ((l.getD (i).toNat dr0).gPedal), iv ((l.getD (i).toNat dr0).gBrake), iv ((l.getD (i).toNat dr0).gGear), iv ((l.getD (i).toNat dr0).gLoad)] 27] w45 := S54.erase 0
             clear S54
             refine J.run 13 K9_66 [(49, .agg #[.string ⟨#[103, 101, 97, 114]⟩, iv 0, iv 6]), (48, iv 3), (46, iv 3), (45, .agg kvD7_2), (5, .pointer (some ⟨b8, 0, none⟩)), (25, iv i), (24, iv (n : Int)), (23, .slice a n c), (0, .slice a n c)] w45 (by kernel_rfl) ?_
             refine J.new S55 7 kvD7_1 51 (by kernel_rfl) ?_
             intro b12 w46 S56
             refine J.run 1 K9_67 [(6, iv 3), (7, .pointer (some ⟨b12, 0, none⟩)), (49, .agg #[.string ⟨#[103, 101, 97, 114]⟩, iv 0, iv 6]), (46, iv 3), (45, .agg kvD7_2), (5, .pointer (some ⟨b8, 0, none⟩)), (25, iv i), (24, iv (n : Int)), (23, .slice a n c), (0, .slice a n c)] w46 (by kernel_rfl) ?_
             refine J.stBox S56 0 51 0 (.agg #[.string ⟨#[103, 101, 97, 114]⟩, iv 0, iv 6]) [.string ⟨#[103, 101, 97, 114]⟩, iv 0, iv 6] [box b12 [.string ⟨#[103, 101, 97, 114]⟩, iv 0, iv 6] 51, box b8 [iv (((l.getD (i).toNat dr0)).gAt), iv (((l.getD (i).toNat dr0)).gPedal), iv (((l.getD (i).toNat dr0)).gBrake), iv (((l.getD (i).toNat dr0)).gGear), iv (((l.getD (i).toNat dr0)).gLoad)] 48, box b1 [iv ((l.getD (i).toNat dr0).gAt), iv ((l.getD (i).toNat dr0).gPedal), iv ((l.getD (i).toNat dr0).gBrake), iv ((l.getD (i).toNat dr0).gGear), iv ((l.getD (i).toNat dr0).gLoad)] 27] (by kernel_rfl) rfl (by kernel_rfl) (by kernel_rfl) rfl ?_
             intro w47 S57
             refine J.run 2 K9_68 [(6, iv 3), (7, .pointer (some ⟨b12, 0, none⟩)), (46, iv 3), (45, .agg kvD7_2), (5, .pointer (some ⟨b8, 0, none⟩)), (25, iv i), (24, iv (n : Int)), (23, .slice a n c), (0, .slice a n c)] w47 (by kernel_rfl) ?_
             by_cases fk23 : (((l.getD (i).toNat dr0)).gGear) < 0
             ·skip
              refine J.drawStill S57 14 Tryd.mixed (by kernel_rfl) (by kernel_rfl) (by kernel_rfl) ?_
              intro w48 S58
              refine SL.ok (by decide) (OK.run 50 (iv 3) (by kernel_rfl)) ?_
              refine SL.ok (by decide) (OK.indexP 51 48 5 1 b8 0 3 3 (by kernel_rfl) (by kernel_rfl) (by omega) (by omega)) ?_
              refine SL.head (.pointer (some ⟨b8, 3, none⟩)) (by first | rfl | (rw [Nat.zero_add, Nat.mul_one])) ?_
              refine SL.ok (by decide) (OK.ldBox S58 1 52 3 3 (iv (((l.getD (i).toNat dr0)).gGear)) (by kernel_rfl) rfl (by kernel_rfl)) ?_
              refine SL.ok (by decide) (OK.run 53 (.pointer (some ⟨b12, 1, none⟩)) (by kernel_rfl)) ?_
              refine SL.ok (by decide) (OK.ldBox S58 0 54 3 1 (iv 0) (by kernel_rfl) rfl (by kernel_rfl)) ?_
              refine SL.ok (by decide) (OK.run 55 (.bool (decide ((((l.getD (i).toNat dr0)).gGear) < 0))) (by kernel_rfl)) ?_
              refine SL.head (.bool true) (congrArg Value.bool (decide_eq_true fk23)) ?_
              refine SL.ok (by decide) (OK.run 56 (.bool true) (by kernel_rfl)) ?_
              refine SL.pass (d := some 57) (by decide) (by kernel_rfl) ?_
              refine SL.pass (d := some 58) (by decide) (by kernel_rfl) ?_
              refine SL.pass (d := some 59) (by decide) (by kernel_rfl) ?_
              refine SL.pass (d := some 60) (by decide) (by kernel_rfl) ?_
              refine SL.pass (d := some 61) (by decide) (by kernel_rfl) ?_
              refine SL.pass (d := some 62) (by decide) (by kernel_rfl) ?_
              refine SL.ok (by decide) (OK.run 63 (.bool true) (by kernel_rfl)) ?_
              refine SL.done ?_
              refine TL.done (by kernel_rfl) ?_
              refine J.run 0 (rRest K9_68) [(63, .bool true), (46, iv 3), (45, .agg kvD7_2), (5, .pointer (some ⟨b8, 0, none⟩)), (25, iv i), (24, iv (n : Int)), (23, .slice a n c), (0, .slice a n c)] w48 (by kernel_rfl) ?_
              refine J.run 5 K9_69 [(2, .bool false)] w48 (by kernel_rfl) ?_
              refine J.ret Tryd.f9 [.bool false] Tryd.func9 ⟨by kernel_rfl, trivial⟩ ?_
              refine hR _ _ ?_
              exact ⟨congrArg Value.bool (valid_bad (i := i.toNat) (by omega) (ok_badI h0 (by omega))).symm, S58.nil⟩
             ·skip
              refine J.drawStill S57 14 Tryd.mixed (by kernel_rfl) (by kernel_rfl) (by kernel_rfl) ?_
              intro w49 S59
              refine SL.ok (by decide) (OK.run 50 (iv 3) (by kernel_rfl)) ?_
              refine SL.ok (by decide) (OK.indexP 51 48 5 1 b8 0 3 3 (by kernel_rfl) (by kernel_rfl) (by omega) (by omega)) ?_
              refine SL.head (.pointer (some ⟨b8, 3, none⟩)) (by first | rfl | (rw [Nat.zero_add, Nat.mul_one])) ?_
              refine SL.ok (by decide) (OK.ldBox S59 1 52 3 3 (iv (((l.getD (i).toNat dr0)).gGear)) (by kernel_rfl) rfl (by kernel_rfl)) ?_
              refine SL.ok (by decide) (OK.run 53 (.pointer (some ⟨b12, 1, none⟩)) (by kernel_rfl)) ?_
              refine SL.ok (by decide) (OK.ldBox S59 0 54 3 1 (iv 0) (by kernel_rfl) rfl (by kernel_rfl)) ?_
              refine SL.ok (by decide) (OK.run 55 (.bool (decide ((((l.getD (i).toNat dr0)).gGear) < 0))) (by kernel_rfl)) ?_
              refine SL.head (.bool false) (congrArg Value.bool (decide_eq_false fk23)) ?_
              refine SL.ok (by decide) (OK.run 56 (.bool false) (by kernel_rfl)) ?_
              refine SL.ok (by decide) (OK.run 57 (iv 3) (by kernel_rfl)) ?_
              refine SL.ok (by decide) (OK.indexP 58 48 5 1 b8 0 3 3 (by kernel_rfl) (by kernel_rfl) (by omega) (by omega)) ?_
              refine SL.head (.pointer (some ⟨b8, 3, none⟩)) (by first | rfl | (rw [Nat.zero_add, Nat.mul_one])) ?_
              refine SL.ok (by decide) (OK.ldBox S59 1 59 3 3 (iv (((l.getD (i).toNat dr0)).gGear)) (by kernel_rfl) rfl (by kernel_rfl)) ?_
              refine SL.ok (by decide) (OK.run 60 (.pointer (some ⟨b12, 2, none⟩)) (by kernel_rfl)) ?_
              refine SL.ok (by decide) (OK.ldBox S59 0 61 3 2 (iv 6) (by kernel_rfl) rfl (by kernel_rfl)) ?_
              refine SL.ok (by decide) (OK.run 62 (.bool (decide ((((l.getD (i).toNat dr0)).gGear) > 6))) (by kernel_rfl)) ?_
              refine SL.ok (by decide) (OK.run 63 (.bool (decide ((((l.getD (i).toNat dr0)).gGear) > 6))) (by kernel_rfl)) ?_
              refine SL.done ?_
              refine TL.done (by kernel_rfl) ?_
              refine J.run 0 (rRest K9_68) [(63, .bool (decide ((((l.getD (i).toNat dr0)).gGear) > 6))), (46, iv 3), (45, .agg kvD7_2), (5, .pointer (some ⟨b8, 0, none⟩)), (25, iv i), (24, iv (n : Int)), (23, .slice a n c), (0, .slice a n c)] w49 (by kernel_rfl) ?_
              by_cases fk24 : (((l.getD (i).toNat dr0)).gGear) > 6
              ·skip
               refine J.head (.bool true) (congrArg Value.bool (decide_eq_true fk24)) ?_
               refine J.run 5 K9_70 [(2, .bool false)] w49 (by kernel_rfl) ?_
               refine J.ret Tryd.f9 [.bool false] Tryd.func9 ⟨by kernel_rfl, trivial⟩ ?_
               refine hR _ _ ?_
               exact ⟨congrArg Value.bool (valid_bad (i := i.toNat) (by omega) (ok_badI h0 (by omega))).symm, S59.nil⟩
              ·skip
               refine J.head (.bool false) (congrArg Value.bool (decide_eq_false fk24)) ?_
               refine J.run 8 K9_71 [(46, iv 4), (45, .agg kvD7_2), (5, .pointer (some ⟨b8, 0, none⟩)), (25, iv i), (24, iv (n : Int)), (23, .slice a n c), (0, .slice a n c)] w49 (by kernel_rfl) ?_
               have S60 : Sep w [box b8 [iv (((l.getD (i).toNat dr0)).gAt), iv (((l.getD (i).toNat dr0)).gPedal), iv (((l.getD (i).toNat dr0)).gBrake), iv (((l.getD (i).toNat dr0)).gGear), iv (((l.getD (i).toNat dr0)).gLoad)] 48, box b1 [iv ((l.getD (i).toNat dr0).gAt), iv ((l.getD (i).toNat dr0).gPedal), iv ((l.getD (i).toNat dr0).gBrake), iv ((l.getD (i).toNat dr0).gGear), iv ((l.getD (i).toNat dr0).gLoad)] 27] w49 := S59.erase 0
               clear S59
               refine J.run 13 K9_72 [(49, .agg #[.string ⟨#[108, 111, 97, 100]⟩, iv (-500), iv 2000]), (48, iv 4), (46, iv 4), (45, .agg kvD7_2), (5, .pointer (some ⟨b8, 0, none⟩)), (25, iv i), (24, iv (n : Int)), (23, .slice a n c), (0, .slice a n c)] w49 (by kernel_rfl) ?_
               refine J.new S60 7 kvD7_1 51 (by kernel_rfl) ?_
               intro b13 w50 S61
               refine J.run 1 K9_73 [(6, iv 4), (7, .pointer (some ⟨b13, 0, none⟩)), (49, .agg #[.string ⟨#[108, 111, 97, 100]⟩, iv (-500), iv 2000]), (46, iv 4), (45, .agg kvD7_2), (5, .pointer (some ⟨b8, 0, none⟩)), (25, iv i), (24, iv (n : Int)), (23, .slice a n c), (0, .slice a n c)] w50 (by kernel_rfl) ?_
               refine J.stBox S61 0 51 0 (.agg #[.string ⟨#[108, 111, 97, 100]⟩, iv (-500), iv 2000]) [.string ⟨#[108, 111, 97, 100]⟩, iv (-500), iv 2000] [box b13 [.string ⟨#[108, 111, 97, 100]⟩, iv (-500), iv 2000] 51, box b8 [iv (((l.getD (i).toNat dr0)).gAt), iv (((l.getD (i).toNat dr0)).gPedal), iv (((l.getD (i).toNat dr0)).gBrake), iv (((l.getD (i).toNat dr0)).gGear), iv (((l.getD (i).toNat dr0)).gLoad)] 48, box b1 [iv ((l.getD (i).toNat dr0).gAt), iv ((l.getD (i).toNat dr0).gPedal), iv ((l.getD (i).toNat dr0).gBrake), iv ((l.getD (i).toNat dr0).gGear), iv ((l.getD (i).toNat dr0).gLoad)] 27] (by kernel_rfl) rfl (by kernel_rfl) (by kernel_rfl) rfl ?_
               intro w51 S62
               refine J.run 2 K9_74 [(6, iv 4), (7, .pointer (some ⟨b13, 0, none⟩)), (46, iv 4), (45, .agg kvD7_2), (5, .pointer (some ⟨b8, 0, none⟩)), (25, iv i), (24, iv (n : Int)), (23, .slice a n c), (0, .slice a n c)] w51 (by kernel_rfl) ?_
               by_cases fk25 : (((l.getD (i).toNat dr0)).gLoad) < (-500)
               ·skip
                refine J.drawStill S62 14 Tryd.mixed (by kernel_rfl) (by kernel_rfl) (by kernel_rfl) ?_
                intro w52 S63
                refine SL.ok (by decide) (OK.run 50 (iv 4) (by kernel_rfl)) ?_
                refine SL.ok (by decide) (OK.indexP 51 48 5 1 b8 0 4 4 (by kernel_rfl) (by kernel_rfl) (by omega) (by omega)) ?_
                refine SL.head (.pointer (some ⟨b8, 4, none⟩)) (by first | rfl | (rw [Nat.zero_add, Nat.mul_one])) ?_
                refine SL.ok (by decide) (OK.ldBox S63 1 52 3 4 (iv (((l.getD (i).toNat dr0)).gLoad)) (by kernel_rfl) rfl (by kernel_rfl)) ?_
                refine SL.ok (by decide) (OK.run 53 (.pointer (some ⟨b13, 1, none⟩)) (by kernel_rfl)) ?_
                refine SL.ok (by decide) (OK.ldBox S63 0 54 3 1 (iv (-500)) (by kernel_rfl) rfl (by kernel_rfl)) ?_
                refine SL.ok (by decide) (OK.run 55 (.bool (decide ((((l.getD (i).toNat dr0)).gLoad) < (-500)))) (by kernel_rfl)) ?_
                refine SL.head (.bool true) (congrArg Value.bool (decide_eq_true fk25)) ?_
                refine SL.ok (by decide) (OK.run 56 (.bool true) (by kernel_rfl)) ?_
                refine SL.pass (d := some 57) (by decide) (by kernel_rfl) ?_
                refine SL.pass (d := some 58) (by decide) (by kernel_rfl) ?_
                refine SL.pass (d := some 59) (by decide) (by kernel_rfl) ?_
                refine SL.pass (d := some 60) (by decide) (by kernel_rfl) ?_
                refine SL.pass (d := some 61) (by decide) (by kernel_rfl) ?_
                refine SL.pass (d := some 62) (by decide) (by kernel_rfl) ?_
                refine SL.ok (by decide) (OK.run 63 (.bool true) (by kernel_rfl)) ?_
                refine SL.done ?_
                refine TL.done (by kernel_rfl) ?_
                refine J.run 0 (rRest K9_74) [(63, .bool true), (46, iv 4), (45, .agg kvD7_2), (5, .pointer (some ⟨b8, 0, none⟩)), (25, iv i), (24, iv (n : Int)), (23, .slice a n c), (0, .slice a n c)] w52 (by kernel_rfl) ?_
                refine J.run 5 K9_75 [(2, .bool false)] w52 (by kernel_rfl) ?_
                refine J.ret Tryd.f9 [.bool false] Tryd.func9 ⟨by kernel_rfl, trivial⟩ ?_
                refine hR _ _ ?_
                exact ⟨congrArg Value.bool (valid_bad (i := i.toNat) (by omega) (ok_badI h0 (by omega))).symm, S63.nil⟩
               ·skip
                refine J.drawStill S62 14 Tryd.mixed (by kernel_rfl) (by kernel_rfl) (by kernel_rfl) ?_
                intro w53 S64
                refine SL.ok (by decide) (OK.run 50 (iv 4) (by kernel_rfl)) ?_
                refine SL.ok (by decide) (OK.indexP 51 48 5 1 b8 0 4 4 (by kernel_rfl) (by kernel_rfl) (by omega) (by omega)) ?_
                refine SL.head (.pointer (some ⟨b8, 4, none⟩)) (by first | rfl | (rw [Nat.zero_add, Nat.mul_one])) ?_
                refine SL.ok (by decide) (OK.ldBox S64 1 52 3 4 (iv (((l.getD (i).toNat dr0)).gLoad)) (by kernel_rfl) rfl (by kernel_rfl)) ?_
                refine SL.ok (by decide) (OK.run 53 (.pointer (some ⟨b13, 1, none⟩)) (by kernel_rfl)) ?_
                refine SL.ok (by decide) (OK.ldBox S64 0 54 3 1 (iv (-500)) (by kernel_rfl) rfl (by kernel_rfl)) ?_
                refine SL.ok (by decide) (OK.run 55 (.bool (decide ((((l.getD (i).toNat dr0)).gLoad) < (-500)))) (by kernel_rfl)) ?_
                refine SL.head (.bool false) (congrArg Value.bool (decide_eq_false fk25)) ?_
                refine SL.ok (by decide) (OK.run 56 (.bool false) (by kernel_rfl)) ?_
                refine SL.ok (by decide) (OK.run 57 (iv 4) (by kernel_rfl)) ?_
                refine SL.ok (by decide) (OK.indexP 58 48 5 1 b8 0 4 4 (by kernel_rfl) (by kernel_rfl) (by omega) (by omega)) ?_
                refine SL.head (.pointer (some ⟨b8, 4, none⟩)) (by first | rfl | (rw [Nat.zero_add, Nat.mul_one])) ?_
                refine SL.ok (by decide) (OK.ldBox S64 1 59 3 4 (iv (((l.getD (i).toNat dr0)).gLoad)) (by kernel_rfl) rfl (by kernel_rfl)) ?_
                refine SL.ok (by decide) (OK.run 60 (.pointer (some ⟨b13, 2, none⟩)) (by kernel_rfl)) ?_
                refine SL.ok (by decide) (OK.ldBox S64 0 61 3 2 (iv 2000) (by kernel_rfl) rfl (by kernel_rfl)) ?_
                refine SL.ok (by decide) (OK.run 62 (.bool (decide ((((l.getD (i).toNat dr0)).gLoad) > 2000))) (by kernel_rfl)) ?_
                refine SL.ok (by decide) (OK.run 63 (.bool (decide ((((l.getD (i).toNat dr0)).gLoad) > 2000))) (by kernel_rfl)) ?_
                refine SL.done ?_
                refine TL.done (by kernel_rfl) ?_
                refine J.run 0 (rRest K9_74) [(63, .bool (decide ((((l.getD (i).toNat dr0)).gLoad) > 2000))), (46, iv 4), (45, .agg kvD7_2), (5, .pointer (some ⟨b8, 0, none⟩)), (25, iv i), (24, iv (n : Int)), (23, .slice a n c), (0, .slice a n c)] w53 (by kernel_rfl) ?_
                by_cases fk26 : (((l.getD (i).toNat dr0)).gLoad) > 2000
                ·skip
                 refine J.head (.bool true) (congrArg Value.bool (decide_eq_true fk26)) ?_
                 refine J.run 5 K9_76 [(2, .bool false)] w53 (by kernel_rfl) ?_
                 refine J.ret Tryd.f9 [.bool false] Tryd.func9 ⟨by kernel_rfl, trivial⟩ ?_
                 refine hR _ _ ?_
                 exact ⟨congrArg Value.bool (valid_bad (i := i.toNat) (by omega) (ok_badI h0 (by omega))).symm, S64.nil⟩
                ·skip
                 refine J.head (.bool false) (congrArg Value.bool (decide_eq_false fk26)) ?_
                 refine J.run 8 K9_77 [(46, iv 5), (45, .agg kvD7_2), (5, .pointer (some ⟨b8, 0, none⟩)), (25, iv i), (24, iv (n : Int)), (23, .slice a n c), (0, .slice a n c)] w53 (by kernel_rfl) ?_
                 have S65 : Sep w [box b8 [iv (((l.getD (i).toNat dr0)).gAt), iv (((l.getD (i).toNat dr0)).gPedal), iv (((l.getD (i).toNat dr0)).gBrake), iv (((l.getD (i).toNat dr0)).gGear), iv (((l.getD (i).toNat dr0)).gLoad)] 48, box b1 [iv ((l.getD (i).toNat dr0).gAt), iv ((l.getD (i).toNat dr0).gPedal), iv ((l.getD (i).toNat dr0).gBrake), iv ((l.getD (i).toNat dr0).gGear), iv ((l.getD (i).toNat dr0).gLoad)] 27] w53 := S64.erase 0
                 clear S64
                 refine J.run 10 K9_78 [(65, iv (IntKind.wrap .i64 (i + 1))), (24, iv (n : Int)), (23, .slice a n c), (0, .slice a n c)] w53 (by kernel_rfl) ?_
                 refine J.head (iv (i + 1)) (congrArg (Value.int .i64) (IntWalk.i64_in _ (by omega))) ?_
                 refine J.run 3 K9_7 [(25, iv (i + 1)), (24, iv (n : Int)), (23, .slice a n c), (0, .slice a n c)] w53 (by kernel_rfl) ?_
                 have S66 : Sep w [box b8 [iv (((l.getD (i).toNat dr0)).gAt), iv (((l.getD (i).toNat dr0)).gPedal), iv (((l.getD (i).toNat dr0)).gBrake), iv (((l.getD (i).toNat dr0)).gGear), iv (((l.getD (i).toNat dr0)).gLoad)] 48] w53 := S65.erase 1
                 clear S65
                 have S67 : Sep w [] w53 := S66.erase 0
                 clear S66
                 refine J.run 0 K9_7 [(25, iv (i + 1)), (24, iv (n : Int)), (23, .slice a n c), (0, .slice a n c)] w53 (by kernel_rfl) ?_
                 exact ih1 _ (show ((n : Int) - (i + 1)).toNat < mm1 from by omega) (i + 1) w53 (by omega) (by omega) (dg_step (q := fun j => okAt l j = true) h0 hq ((ok_I h0).2 (by omega))) S67 rfl
     ·skip
      refine J.head (.bool false) (congrArg Value.bool (decide_eq_false fk4)) ?_
      refine J.run 6 K9_79 [(2, .bool true)] w1 (by kernel_rfl) ?_
      refine J.ret Tryd.f9 [.bool true] Tryd.func9 ⟨by kernel_rfl, trivial⟩ ?_
      refine hR _ _ ?_
      exact ⟨congrArg Value.bool (valid_yes (by omega) (by omega) (fun j hj => hq j (by omega))).symm, S1.nil⟩
    exact L9_1 _ 0 w (by omega) (by omega) (by intro j hj; simp at hj) S0 rfl
   ·skip
    refine J.head (.bool true) (congrArg Value.bool (bne_iff_ne.2 fk3)) ?_
    refine J.run 5 K9_80 [(2, .bool false)] w (by kernel_rfl) ?_
    refine J.ret Tryd.f9 [.bool false] Tryd.func9 ⟨by kernel_rfl, trivial⟩ ?_
    refine hR _ _ ?_
    exact ⟨congrArg Value.bool (valid_no (by omega)).symm, S0.nil⟩

end Go.Proofs.YthhdaackhfffiaaDoor

