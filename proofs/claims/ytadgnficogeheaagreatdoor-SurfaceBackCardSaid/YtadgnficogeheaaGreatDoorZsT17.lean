/- Walks of functions of this seat, printed by a program over the engine. Conditions: as each theorem says. -/
import Derived.Test.YtadgnficogeheaaGreatDoorZsT16
namespace Go.Proofs.YtadgnficogeheaaGreatDoor
noncomputable section
open Go.Eng Go.RowKit
set_option linter.unusedSimpArgs false
set_option linter.unusedVariables false
theorem some_not {l : List UInt8} (h : ¬ ∀ c ∈ l, isDig c = true) : ∃ c ∈ l, isDig c = false := by
  rcases Classical.em (∃ c ∈ l, isDig c = false) with h2 | h2
  · exact h2
  · exact absurd (fun c hc => by cases h3 : isDig c with | true => rfl | false => exact absurd ⟨c, hc, h3⟩ h2) h
theorem canon_a {d s : ByteArray} (h : byteAt d 0 ≠ 48) : true = !((byteAt d 0 == 48) && decide (1 < s.size)) := by rw [beq_eq_false_iff_ne.2 h]; rfl
theorem canon_b {d s : ByteArray} (h : byteAt d 0 = 48) {b : Bool} (hb : b = decide (s.size ≤ 1)) : b = !((byteAt d 0 == 48) && decide (1 < s.size)) := by
  rw [beq_iff_eq.2 h, hb, Bool.true_and]; by_cases h2 : s.size ≤ 1
  · rw [decide_eq_true h2, decide_eq_false (by omega)]; rfl
  · rw [decide_eq_false h2, decide_eq_true (by omega)]; rfl
theorem one_zero {s d : ByteArray} (hd : ls d = digL (ls s)) (h0 : d.size ≠ 0) (h : byteAt d 0 = 48) : (s.toList == (⟨#[48]⟩ : ByteArray).toList) = decide (s.size ≤ 1) := by
  have hl := ls_length d
  have hs := ls_length s
  have hb := digL_len (ls s)
  rw [← hd] at hb
  rw [beq_ls, Bool.eq_iff_iff, beq_iff_eq, decide_eq_true_eq]
  constructor
  · intro e; rw [e] at hs; have : (1 : Nat) = s.size := hs; omega
  · intro e
    cases hn : negL (ls s) with
    | true =>
      have e2 := digL_neg hn
      have := congrArg List.length e2
      rw [List.length_cons, ← hd] at this; omega
    | false =>
      rw [digL_pos hn] at hd
      rw [byteAt_ls, hd] at h
      show ls s = [48]
      cases hx : ls s with
      | nil => rw [hx] at hs; rw [hd, hx] at hl; simp at hl; omega
      | cons c r =>
        rw [hx] at hs h
        cases r with
        | cons _ _ => simp at hs; omega
        | nil =>
          have h2 : ((c.toNat : Nat) : Int) = 48 := h
          rw [show c = 48 from UInt8.toNat_inj.1 (show c.toNat = 48 by omega)]
theorem hb34 : HasBody Tryz.prog 34 := fun _ _ => by kernel_rfl
def K34_0 := adv 7 [] (bodyOf Tryz.f34)
def K34_1 := adv 7 [] (popK K34_0)
def K34_2 := adv 1 [] K34_1
def K34_3 := adv 10 [true] K34_2
def K34_4 := adv 1 [] K34_2
def K34_5 := adv 1 [] (popK K34_4)
def K34_6 := adv 2 [] K34_5
def K34_7 := adv 5 [false] K34_6
def K34_8 := adv 2 [] (popK K34_7)
def K34_9 := adv 5 [] K34_8
def K34_10 := adv 5 [] K34_8
def K34_11 := adv 5 [true] K34_6
set_option maxRecDepth 20000 in
set_option maxHeartbeats 20000000 in
theorem canonical_any (s : ByteArray) (w : World) (hs : s.size ≤ 9223372036854775807) : Ret Tryz.prog 34 #[.string s] w (fun v w' => v = .bool (formL (ls s)) ∧ Sep w [] w') := by
 have S0 := Sep.refl w
 refine Ret.named fun R hR => ?_
 refine Ret.of_J (N := 20) [(0, .string s)] Tryz.func34 rfl rfl (Nat.le_of_ble_eq_true (by kernel_rfl)) (by kernel_rfl) ?_
 refine J.run 7 K34_0 [(4, .string s), (0, .string s)] w (by kernel_rfl) ?_
 refine J.callF 5 50 #[.string s, .string ⟨#[45]⟩] hb50 (by kernel_rfl) (dash_any s _) ?_
 rintro _ w1 ⟨d, ⟨hd, hds⟩, rfl, T1⟩
 have S1 : Sep w [] w1 := S0.trans T1
 refine J.run 7 K34_1 [(7, .bool (d.toList == (⟨#[]⟩ : ByteArray).toList)), (3, .string d), (0, .string s)] w1 (by kernel_rfl) ?_
 refine J.head (.bool ((d.size : Int) == 0)) (congrArg Value.bool (beq_nil_eql _)) ?_
 refine J.run 1 K34_2 [(8, .bool ((d.size : Int) == 0)), (3, .string d), (0, .string s)] w1 (by kernel_rfl) ?_
 by_cases fk1 : (d.size : Int) = 0
 ·skip
  refine J.head (.bool true) (congrArg Value.bool (beq_iff_eq.2 fk1)) ?_
  refine J.run 10 K34_3 [(2, .bool false)] w1 (by kernel_rfl) ?_
  refine J.ret Tryz.f34 [.bool false] Tryz.func34 ⟨by kernel_rfl, trivial⟩ ?_
  refine hR _ _ ?_
  exact ⟨congrArg Value.bool (canon_no hd (.inl (by omega))).symm, S1.nil⟩
 refine J.head (.bool false) (congrArg Value.bool (beq_eq_false_iff_ne.2 fk1)) ?_
 refine J.run 1 K34_4 [(9, .string d), (8, .bool false), (3, .string d), (0, .string s)] w1 (by kernel_rfl) ?_
 refine J.callF 10 51 #[.string d, .string ⟨#[48, 49, 50, 51, 52, 53, 54, 55, 56, 57]⟩] hb51 (by kernel_rfl) (trim_any d _ (by omega) (by omega)) ?_
 rintro _ w2 ⟨t, ht, rfl, T2⟩
 have S2 : Sep w [] w2 := S1.trans T2
 refine J.run 1 K34_5 [(11, .bool (!(t.toList == (⟨#[]⟩ : ByteArray).toList))), (8, .bool false), (3, .string d), (0, .string s)] w2 (by kernel_rfl) ?_
 refine J.head (.bool ((t.size : Int) != 0)) (congrArg Value.bool (beq_nil_neq _)) ?_
 refine J.run 2 K34_6 [(12, .bool ((t.size : Int) != 0)), (3, .string d), (0, .string s)] w2 (by kernel_rfl) ?_
 by_cases fk2 : (t.size : Int) = 0
 rotate_left
 ·skip
  refine J.head (.bool true) (congrArg Value.bool (bne_iff_ne.2 fk2)) ?_
  refine J.run 5 K34_11 [(2, .bool false)] w2 (by kernel_rfl) ?_
  refine J.ret Tryz.f34 [.bool false] Tryz.func34 ⟨by kernel_rfl, trivial⟩ ?_
  refine hR _ _ ?_
  exact ⟨congrArg Value.bool (canon_no hd (.inr (some_not (fun h_ => absurd (ht.2 h_) (by omega))))).symm, S2.nil⟩
 refine J.head (.bool false) (congrArg Value.bool (bne_eq_false_iff_eq.2 fk2)) ?_
 refine J.run 5 K34_7 [(13, .string d), (0, .string s)] w2 (by kernel_rfl) ?_
 have := byteAt_bounds d 0
 refine J.ok (OK.byte 14 9 d (0 : Int) (byteAt d 0) (by kernel_rfl) (by kernel_rfl) (by omega) (by omega) (rfl)) ?_
 refine J.run 2 K34_8 [(16, .bool ((byteAt d 0) != 48)), (0, .string s)] w2 (by kernel_rfl) ?_
 by_cases fk3 : (byteAt d 0) = 48
 rotate_left
 ·skip
  refine J.head (.bool true) (congrArg Value.bool (bne_iff_ne.2 fk3)) ?_
  refine J.run 5 K34_10 [(2, .bool true)] w2 (by kernel_rfl) ?_
  refine J.ret Tryz.f34 [.bool true] Tryz.func34 ⟨by kernel_rfl, trivial⟩ ?_
  refine hR _ _ ?_
  have hcy := canon_yes hd (by omega) (ht.1 (by omega))
  exact ⟨congrArg Value.bool (by rw [hcy]; exact canon_a (by omega)), S2.nil⟩
 refine J.head (.bool false) (congrArg Value.bool (bne_eq_false_iff_eq.2 fk3)) ?_
 refine J.run 5 K34_9 [(2, .bool (s.toList == (⟨#[48]⟩ : ByteArray).toList))] w2 (by kernel_rfl) ?_
 refine J.ret Tryz.f34 [.bool (s.toList == (⟨#[48]⟩ : ByteArray).toList)] Tryz.func34 ⟨by kernel_rfl, trivial⟩ ?_
 refine hR _ _ ?_
 have hcy := canon_yes hd (by omega) (ht.1 (by omega))
 exact ⟨congrArg Value.bool (by rw [hcy]; exact canon_b (by omega) (one_zero hd (by omega) (by omega))), S2.nil⟩

end
end Go.Proofs.YtadgnficogeheaaGreatDoor

