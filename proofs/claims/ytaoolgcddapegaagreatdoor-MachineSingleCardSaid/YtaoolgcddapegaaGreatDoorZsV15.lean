/- Walks of functions of this seat, printed by a program over the engine. Conditions: as each theorem says. -/
import Derived.Test.YtaoolgcddapegaaGreatDoorZsV14
import Derived.Test.YtaoolgcddapegaaGreatDoorZsShelf
namespace Go.Proofs.YtaoolgcddapegaaGreatDoor
open Go.Eng Go.RowKit
set_option linter.unusedSimpArgs false
set_option linter.unusedVariables false
set_option maxRecDepth 20000
set_option maxHeartbeats 20000000
theorem hb119 : HasBody Tryz.prog 119 := fun _ _ => by kernel_rfl

theorem in9_any (n : Int) (w : World) : Ret Tryz.prog 119 #[iv n] w (fun v w' => v = .bool (decide (-9 ≤ n ∧ n ≤ 9)) ∧ Sep w [] w') := by
 refine Ret.st (N := 9) Tryz.func119 fun R hR S0 => ?_
 refine J.c 9 [] [] [] 5 (n ≥ (-9)) (fun fk1 => ?_) fun fk1 => ?_
 ·skip
  refine J.e 5 [.bool (decide (n ≤ 9))] Tryz.func119 (hR _ _ ?_)
  exact ⟨congrArg Value.bool (by show (decide (n ≤ 9)) = decide (-9 ≤ n ∧ n ≤ 9); by_cases hz_ : n ≤ 9; (rw [(decide_eq_true hz_)]; first | exact (decide_eq_true (by omega)).symm | exact (decide_eq_false (by omega)).symm); (rw [(decide_eq_false hz_)]; first | exact (decide_eq_false (by omega)).symm | exact (decide_eq_true (by omega)).symm)), S0.nil⟩
 refine J.e 5 [.bool false] Tryz.func119 (hR _ _ ?_)
 exact ⟨congrArg Value.bool (decide_eq_false (show ¬ (-9 ≤ n ∧ n ≤ 9) by omega)).symm, S0.nil⟩

theorem hb67 : HasBody Tryz.prog 67 := fun _ _ => by kernel_rfl

theorem r3unit_any (u : Unt) (w : World) : Ret Tryz.prog 67 #[.agg (untA u)] w (fun v w' => v = .bool (unB u) ∧ Sep w [] w') := by
 refine Ret.st (N := 26) Tryz.func67 fun R hR S0 => ?_
 refine J.nw 2 [] [] [] S0 1 (untC u) 73 fun b1 w1 S1 => ?_
 refine J.lb 5 [] [] [] S1 0 rfl 4 (iv u.gM) ?_
 refine J.c0 0 [] [] [] S1 5 hb119 (in9_any u.gM _) fun w2 S2 => ?_
 refine J.b 1 [] [] [] 6 (decide (-9 ≤ u.gM ∧ u.gM ≤ 9)) (fun fk1 => ?_) fun fk1 => ?_
 ·skip
  have fb1 := of_decide_eq_true fk1
  refine J.lb 1 [] [] [] S2 0 rfl 8 (iv u.gKg) ?_
  refine J.c0 0 [] [] [] S2 9 hb119 (in9_any u.gKg _) fun w3 S3 => ?_
  refine J.b 2 [] [] [] 11 (decide (-9 ≤ u.gKg ∧ u.gKg ≤ 9)) (fun fk2 => ?_) fun fk2 => ?_
  ·skip
   have fb2 := of_decide_eq_true fk2
   refine J.lb 1 [] [] [] S3 0 rfl 13 (iv u.gS) ?_
   refine J.c0 0 [] [] [] S3 14 hb119 (in9_any u.gS _) fun w4 S4 => ?_
   refine J.b 2 [] [] [] 16 (decide (-9 ≤ u.gS ∧ u.gS ≤ 9)) (fun fk3 => ?_) fun fk3 => ?_
   ·skip
    have fb3 := of_decide_eq_true fk3
    refine J.lb 1 [] [] [] S4 0 rfl 18 (iv u.gA) ?_
    refine J.c0 0 [] [] [] S4 19 hb119 (in9_any u.gA _) fun w5 S5 => ?_
    refine J.b 2 [] [] [] 21 (decide (-9 ≤ u.gA ∧ u.gA ≤ 9)) (fun fk4 => ?_) fun fk4 => ?_
    ·skip
     have fb4 := of_decide_eq_true fk4
     refine J.lb 1 [] [] [] S5 0 rfl 23 (iv u.gK) ?_
     refine J.c0 0 [] [] [] S5 24 hb119 (in9_any u.gK _) fun w6 S6 => ?_
     refine J.e 3 [.bool (decide (-9 ≤ u.gK ∧ u.gK ≤ 9))] Tryz.func67 (hR _ _ ?_)
     exact ⟨congrArg Value.bool (by show _ = decide (unP u.gM u.gKg u.gS u.gA u.gK); cases hz_ : decide (-9 ≤ u.gK ∧ u.gK ≤ 9) with | true => (have h_ := of_decide_eq_true hz_; exact (decide_eq_true (by omega)).symm) | false => (have h_ := of_decide_eq_false hz_; exact (decide_eq_false (by omega)).symm)), S6.nil⟩
    have fb5 := of_decide_eq_false fk4
    refine J.e 6 [.bool false] Tryz.func67 (hR _ _ ?_)
    exact ⟨congrArg Value.bool (decide_eq_false (show ¬ (unP u.gM u.gKg u.gS u.gA u.gK) by omega)).symm, S5.nil⟩
   have fb6 := of_decide_eq_false fk3
   refine J.e 11 [.bool false] Tryz.func67 (hR _ _ ?_)
   exact ⟨congrArg Value.bool (decide_eq_false (show ¬ (unP u.gM u.gKg u.gS u.gA u.gK) by omega)).symm, S4.nil⟩
  have fb7 := of_decide_eq_false fk2
  refine J.e 16 [.bool false] Tryz.func67 (hR _ _ ?_)
  exact ⟨congrArg Value.bool (decide_eq_false (show ¬ (unP u.gM u.gKg u.gS u.gA u.gK) by omega)).symm, S3.nil⟩
 have fb8 := of_decide_eq_false fk1
 refine J.e 21 [.bool false] Tryz.func67 (hR _ _ ?_)
 exact ⟨congrArg Value.bool (decide_eq_false (show ¬ (unP u.gM u.gKg u.gS u.gA u.gK) by omega)).symm, S2.nil⟩

theorem hb95 : HasBody Tryz.prog 95 := fun _ _ => by kernel_rfl

theorem fxvalid_any (t : Fxd) (w : World) (ht : fxdQ w t) : Ret Tryz.prog 95 #[.agg (fxdA t)] w (fun v w' => v = .bool (fixB t) ∧ Sep w [] w') := by
 refine Ret.st (N := 51) Tryz.func95 fun R hR S0 => ?_
 obtain ⟨q1, q2, q3, q4, q5, q6, q7, q8, q9, _⟩ := id ht
 refine J.nw 2 [] [] [] S0 1 (fxdC t) 75 fun b1 w1 S1 => ?_
 refine J.lb 5 [] [] [] S1 0 rfl 4 (iv t.gBits) ?_
 refine J.c 2 [] [] [] 6 (t.gBits = 8) (fun fk1 => ?_) fun fk1 => ?_
 ·skip
  refine J.lb 11 [] [(16, .bool true)] [] S1 0 rfl 18 (iv t.gNum) ?_
  refine J.c 3 [] [] [] 21 (t.gNum ≥ 1) (fun fk2 => ?_) fun fk2 => ?_
  ·skip
   refine J.lb 1 [] [] [] S1 0 rfl 23 (iv t.gNum) ?_
   refine J.c 3 [] [] [] 26 (t.gNum ≤ 1048576) (fun fk3 => ?_) fun fk3 => ?_
   ·skip
    refine J.lb 1 [] [] [] S1 0 rfl 28 (iv t.gDen) ?_
    refine J.c 3 [] [] [] 31 (t.gDen ≥ 1) (fun fk4 => ?_) fun fk4 => ?_
    ·skip
     refine J.lb 1 [] [] [] S1 0 rfl 33 (iv t.gDen) ?_
     refine J.c 3 [] [] [] 36 (t.gDen ≤ 1048576) (fun fk5 => ?_) fun fk5 => ?_
     ·skip
      refine J.lb 1 [] [] [] S1 0 rfl 38 (iv t.gOff) ?_
      refine J.c 3 [] [] [] 41 (t.gOff ≥ (-1073741824)) (fun fk6 => ?_) fun fk6 => ?_
      ·skip
       refine J.lb 1 [] [] [] S1 0 rfl 43 (iv t.gOff) ?_
       refine J.c 3 [] [] [] 46 (t.gOff ≤ 1073741824) (fun fk7 => ?_) fun fk7 => ?_
       ·skip
        refine J.lb 1 [] [] [] S1 0 rfl 48 (.agg #[iv t.gUnit_M, iv t.gUnit_Kg, iv t.gUnit_S, iv t.gUnit_A, iv t.gUnit_K]) ?_
        refine J.c0 0 [] [] [] S1 49 hb144 (uvalid_any (⟨t.gUnit_M, t.gUnit_Kg, t.gUnit_S, t.gUnit_A, t.gUnit_K⟩ : Unt) _) fun w2 S2 => ?_
        refine J.e 3 [.bool (unB (⟨t.gUnit_M, t.gUnit_Kg, t.gUnit_S, t.gUnit_A, t.gUnit_K⟩ : Unt))] Tryz.func95 (hR _ _ ?_)
        exact ⟨congrArg Value.bool (by show _ = decide (fixP t.gBits t.gNum t.gOff t.gDen t.gUnit_M t.gUnit_Kg t.gUnit_S t.gUnit_A t.gUnit_K); cases hz_ : unB (⟨t.gUnit_M, t.gUnit_Kg, t.gUnit_S, t.gUnit_A, t.gUnit_K⟩ : Unt) with | true => (have h_ := unB_iff.1 hz_; try dsimp only at h_; exact (decide_eq_true (by omega)).symm) | false => (have h_ := mt unB_iff.2 (by rw [hz_]; decide); try dsimp only at h_; exact (decide_eq_false (by omega)).symm)), S2.nil⟩
       refine J.e 6 [.bool false] Tryz.func95 (hR _ _ ?_)
       exact ⟨congrArg Value.bool (decide_eq_false (show ¬ (fixP t.gBits t.gNum t.gOff t.gDen t.gUnit_M t.gUnit_Kg t.gUnit_S t.gUnit_A t.gUnit_K) by omega)).symm, S1.nil⟩
      refine J.e 11 [.bool false] Tryz.func95 (hR _ _ ?_)
      exact ⟨congrArg Value.bool (decide_eq_false (show ¬ (fixP t.gBits t.gNum t.gOff t.gDen t.gUnit_M t.gUnit_Kg t.gUnit_S t.gUnit_A t.gUnit_K) by omega)).symm, S1.nil⟩
     refine J.e 16 [.bool false] Tryz.func95 (hR _ _ ?_)
     exact ⟨congrArg Value.bool (decide_eq_false (show ¬ (fixP t.gBits t.gNum t.gOff t.gDen t.gUnit_M t.gUnit_Kg t.gUnit_S t.gUnit_A t.gUnit_K) by omega)).symm, S1.nil⟩
    refine J.e 21 [.bool false] Tryz.func95 (hR _ _ ?_)
    exact ⟨congrArg Value.bool (decide_eq_false (show ¬ (fixP t.gBits t.gNum t.gOff t.gDen t.gUnit_M t.gUnit_Kg t.gUnit_S t.gUnit_A t.gUnit_K) by omega)).symm, S1.nil⟩
   refine J.e 26 [.bool false] Tryz.func95 (hR _ _ ?_)
   exact ⟨congrArg Value.bool (decide_eq_false (show ¬ (fixP t.gBits t.gNum t.gOff t.gDen t.gUnit_M t.gUnit_Kg t.gUnit_S t.gUnit_A t.gUnit_K) by omega)).symm, S1.nil⟩
  refine J.e 31 [.bool false] Tryz.func95 (hR _ _ ?_)
  exact ⟨congrArg Value.bool (decide_eq_false (show ¬ (fixP t.gBits t.gNum t.gOff t.gDen t.gUnit_M t.gUnit_Kg t.gUnit_S t.gUnit_A t.gUnit_K) by omega)).symm, S1.nil⟩
 refine J.lb 1 [] [] [] S1 0 rfl 8 (iv t.gBits) ?_
 refine J.c 3 [] [] [] 11 (t.gBits = 16) (fun fk8 => ?_) fun fk8 => ?_
 ·skip
  refine J.lb 6 [] [(16, .bool true)] [] S1 0 rfl 18 (iv t.gNum) ?_
  refine J.c 3 [] [] [] 21 (t.gNum ≥ 1) (fun fk9 => ?_) fun fk9 => ?_
  ·skip
   refine J.lb 1 [] [] [] S1 0 rfl 23 (iv t.gNum) ?_
   refine J.c 3 [] [] [] 26 (t.gNum ≤ 1048576) (fun fk10 => ?_) fun fk10 => ?_
   ·skip
    refine J.lb 1 [] [] [] S1 0 rfl 28 (iv t.gDen) ?_
    refine J.c 3 [] [] [] 31 (t.gDen ≥ 1) (fun fk11 => ?_) fun fk11 => ?_
    ·skip
     refine J.lb 1 [] [] [] S1 0 rfl 33 (iv t.gDen) ?_
     refine J.c 3 [] [] [] 36 (t.gDen ≤ 1048576) (fun fk12 => ?_) fun fk12 => ?_
     ·skip
      refine J.lb 1 [] [] [] S1 0 rfl 38 (iv t.gOff) ?_
      refine J.c 3 [] [] [] 41 (t.gOff ≥ (-1073741824)) (fun fk13 => ?_) fun fk13 => ?_
      ·skip
       refine J.lb 1 [] [] [] S1 0 rfl 43 (iv t.gOff) ?_
       refine J.c 3 [] [] [] 46 (t.gOff ≤ 1073741824) (fun fk14 => ?_) fun fk14 => ?_
       ·skip
        refine J.lb 1 [] [] [] S1 0 rfl 48 (.agg #[iv t.gUnit_M, iv t.gUnit_Kg, iv t.gUnit_S, iv t.gUnit_A, iv t.gUnit_K]) ?_
        refine J.c0 0 [] [] [] S1 49 hb144 (uvalid_any (⟨t.gUnit_M, t.gUnit_Kg, t.gUnit_S, t.gUnit_A, t.gUnit_K⟩ : Unt) _) fun w3 S3 => ?_
        refine J.e 3 [.bool (unB (⟨t.gUnit_M, t.gUnit_Kg, t.gUnit_S, t.gUnit_A, t.gUnit_K⟩ : Unt))] Tryz.func95 (hR _ _ ?_)
        exact ⟨congrArg Value.bool (by show _ = decide (fixP t.gBits t.gNum t.gOff t.gDen t.gUnit_M t.gUnit_Kg t.gUnit_S t.gUnit_A t.gUnit_K); cases hz_ : unB (⟨t.gUnit_M, t.gUnit_Kg, t.gUnit_S, t.gUnit_A, t.gUnit_K⟩ : Unt) with | true => (have h_ := unB_iff.1 hz_; try dsimp only at h_; exact (decide_eq_true (by omega)).symm) | false => (have h_ := mt unB_iff.2 (by rw [hz_]; decide); try dsimp only at h_; exact (decide_eq_false (by omega)).symm)), S3.nil⟩
       refine J.e 6 [.bool false] Tryz.func95 (hR _ _ ?_)
       exact ⟨congrArg Value.bool (decide_eq_false (show ¬ (fixP t.gBits t.gNum t.gOff t.gDen t.gUnit_M t.gUnit_Kg t.gUnit_S t.gUnit_A t.gUnit_K) by omega)).symm, S1.nil⟩
      refine J.e 11 [.bool false] Tryz.func95 (hR _ _ ?_)
      exact ⟨congrArg Value.bool (decide_eq_false (show ¬ (fixP t.gBits t.gNum t.gOff t.gDen t.gUnit_M t.gUnit_Kg t.gUnit_S t.gUnit_A t.gUnit_K) by omega)).symm, S1.nil⟩
     refine J.e 16 [.bool false] Tryz.func95 (hR _ _ ?_)
     exact ⟨congrArg Value.bool (decide_eq_false (show ¬ (fixP t.gBits t.gNum t.gOff t.gDen t.gUnit_M t.gUnit_Kg t.gUnit_S t.gUnit_A t.gUnit_K) by omega)).symm, S1.nil⟩
    refine J.e 21 [.bool false] Tryz.func95 (hR _ _ ?_)
    exact ⟨congrArg Value.bool (decide_eq_false (show ¬ (fixP t.gBits t.gNum t.gOff t.gDen t.gUnit_M t.gUnit_Kg t.gUnit_S t.gUnit_A t.gUnit_K) by omega)).symm, S1.nil⟩
   refine J.e 26 [.bool false] Tryz.func95 (hR _ _ ?_)
   exact ⟨congrArg Value.bool (decide_eq_false (show ¬ (fixP t.gBits t.gNum t.gOff t.gDen t.gUnit_M t.gUnit_Kg t.gUnit_S t.gUnit_A t.gUnit_K) by omega)).symm, S1.nil⟩
  refine J.e 31 [.bool false] Tryz.func95 (hR _ _ ?_)
  exact ⟨congrArg Value.bool (decide_eq_false (show ¬ (fixP t.gBits t.gNum t.gOff t.gDen t.gUnit_M t.gUnit_Kg t.gUnit_S t.gUnit_A t.gUnit_K) by omega)).symm, S1.nil⟩
 refine J.lb 1 [] [] [] S1 0 rfl 13 (iv t.gBits) ?_
 refine J.c 3 [] [] [] 16 (t.gBits = 32) (fun fk15 => ?_) fun fk15 => ?_
 ·skip
  refine J.lb 1 [] [] [] S1 0 rfl 18 (iv t.gNum) ?_
  refine J.c 3 [] [] [] 21 (t.gNum ≥ 1) (fun fk16 => ?_) fun fk16 => ?_
  ·skip
   refine J.lb 1 [] [] [] S1 0 rfl 23 (iv t.gNum) ?_
   refine J.c 3 [] [] [] 26 (t.gNum ≤ 1048576) (fun fk17 => ?_) fun fk17 => ?_
   ·skip
    refine J.lb 1 [] [] [] S1 0 rfl 28 (iv t.gDen) ?_
    refine J.c 3 [] [] [] 31 (t.gDen ≥ 1) (fun fk18 => ?_) fun fk18 => ?_
    ·skip
     refine J.lb 1 [] [] [] S1 0 rfl 33 (iv t.gDen) ?_
     refine J.c 3 [] [] [] 36 (t.gDen ≤ 1048576) (fun fk19 => ?_) fun fk19 => ?_
     ·skip
      refine J.lb 1 [] [] [] S1 0 rfl 38 (iv t.gOff) ?_
      refine J.c 3 [] [] [] 41 (t.gOff ≥ (-1073741824)) (fun fk20 => ?_) fun fk20 => ?_
      ·skip
       refine J.lb 1 [] [] [] S1 0 rfl 43 (iv t.gOff) ?_
       refine J.c 3 [] [] [] 46 (t.gOff ≤ 1073741824) (fun fk21 => ?_) fun fk21 => ?_
       ·skip
        refine J.lb 1 [] [] [] S1 0 rfl 48 (.agg #[iv t.gUnit_M, iv t.gUnit_Kg, iv t.gUnit_S, iv t.gUnit_A, iv t.gUnit_K]) ?_
        refine J.c0 0 [] [] [] S1 49 hb144 (uvalid_any (⟨t.gUnit_M, t.gUnit_Kg, t.gUnit_S, t.gUnit_A, t.gUnit_K⟩ : Unt) _) fun w4 S4 => ?_
        refine J.e 3 [.bool (unB (⟨t.gUnit_M, t.gUnit_Kg, t.gUnit_S, t.gUnit_A, t.gUnit_K⟩ : Unt))] Tryz.func95 (hR _ _ ?_)
        exact ⟨congrArg Value.bool (by show _ = decide (fixP t.gBits t.gNum t.gOff t.gDen t.gUnit_M t.gUnit_Kg t.gUnit_S t.gUnit_A t.gUnit_K); cases hz_ : unB (⟨t.gUnit_M, t.gUnit_Kg, t.gUnit_S, t.gUnit_A, t.gUnit_K⟩ : Unt) with | true => (have h_ := unB_iff.1 hz_; try dsimp only at h_; exact (decide_eq_true (by omega)).symm) | false => (have h_ := mt unB_iff.2 (by rw [hz_]; decide); try dsimp only at h_; exact (decide_eq_false (by omega)).symm)), S4.nil⟩
       refine J.e 6 [.bool false] Tryz.func95 (hR _ _ ?_)
       exact ⟨congrArg Value.bool (decide_eq_false (show ¬ (fixP t.gBits t.gNum t.gOff t.gDen t.gUnit_M t.gUnit_Kg t.gUnit_S t.gUnit_A t.gUnit_K) by omega)).symm, S1.nil⟩
      refine J.e 11 [.bool false] Tryz.func95 (hR _ _ ?_)
      exact ⟨congrArg Value.bool (decide_eq_false (show ¬ (fixP t.gBits t.gNum t.gOff t.gDen t.gUnit_M t.gUnit_Kg t.gUnit_S t.gUnit_A t.gUnit_K) by omega)).symm, S1.nil⟩
     refine J.e 16 [.bool false] Tryz.func95 (hR _ _ ?_)
     exact ⟨congrArg Value.bool (decide_eq_false (show ¬ (fixP t.gBits t.gNum t.gOff t.gDen t.gUnit_M t.gUnit_Kg t.gUnit_S t.gUnit_A t.gUnit_K) by omega)).symm, S1.nil⟩
    refine J.e 21 [.bool false] Tryz.func95 (hR _ _ ?_)
    exact ⟨congrArg Value.bool (decide_eq_false (show ¬ (fixP t.gBits t.gNum t.gOff t.gDen t.gUnit_M t.gUnit_Kg t.gUnit_S t.gUnit_A t.gUnit_K) by omega)).symm, S1.nil⟩
   refine J.e 26 [.bool false] Tryz.func95 (hR _ _ ?_)
   exact ⟨congrArg Value.bool (decide_eq_false (show ¬ (fixP t.gBits t.gNum t.gOff t.gDen t.gUnit_M t.gUnit_Kg t.gUnit_S t.gUnit_A t.gUnit_K) by omega)).symm, S1.nil⟩
  refine J.e 31 [.bool false] Tryz.func95 (hR _ _ ?_)
  exact ⟨congrArg Value.bool (decide_eq_false (show ¬ (fixP t.gBits t.gNum t.gOff t.gDen t.gUnit_M t.gUnit_Kg t.gUnit_S t.gUnit_A t.gUnit_K) by omega)).symm, S1.nil⟩
 refine J.e 36 [.bool false] Tryz.func95 (hR _ _ ?_)
 exact ⟨congrArg Value.bool (decide_eq_false (show ¬ (fixP t.gBits t.gNum t.gOff t.gDen t.gUnit_M t.gUnit_Kg t.gUnit_S t.gUnit_A t.gUnit_K) by omega)).symm, S1.nil⟩

theorem hb29 : HasBody Tryz.prog 29 := fun _ _ => by kernel_rfl

theorem rfxvalid_any (t : Fxd) (w : World) (ht : fxdQ w t) : Ret Tryz.prog 29 #[.agg (fxdA t)] w (fun v w' => v = .bool (fixB t) ∧ Sep w [] w') := by
 refine Ret.st (N := 49) Tryz.func29 fun R hR S0 => ?_
 obtain ⟨q1, q2, q3, q4, q5, q6, q7, q8, q9, _⟩ := id ht
 refine J.nw 2 [] [] [] S0 1 (fxdC t) 75 fun b1 w1 S1 => ?_
 refine J.lb 6 [] [] [] S1 0 rfl 4 (iv t.gBits) ?_
 refine J.cn 2 [] [] [] 6 (t.gBits = 8) (fun fk1 => ?_) fun fk1 => ?_
 ·skip
  refine J.lb 15 [false] [] [] S1 0 rfl 17 (iv t.gNum) ?_
  refine J.c 2 [] [] [] 19 (t.gNum ≥ 1) (fun fk2 => ?_) fun fk2 => ?_
  ·skip
   refine J.lb 1 [] [] [] S1 0 rfl 21 (iv t.gNum) ?_
   refine J.c 3 [] [] [] 24 (t.gNum ≤ 1048576) (fun fk3 => ?_) fun fk3 => ?_
   ·skip
    refine J.lb 1 [] [] [] S1 0 rfl 26 (iv t.gDen) ?_
    refine J.c 3 [] [] [] 29 (t.gDen ≥ 1) (fun fk4 => ?_) fun fk4 => ?_
    ·skip
     refine J.lb 1 [] [] [] S1 0 rfl 31 (iv t.gDen) ?_
     refine J.c 3 [] [] [] 34 (t.gDen ≤ 1048576) (fun fk5 => ?_) fun fk5 => ?_
     ·skip
      refine J.lb 1 [] [] [] S1 0 rfl 36 (iv t.gOff) ?_
      refine J.c 3 [] [] [] 39 (t.gOff ≥ (-1073741824)) (fun fk6 => ?_) fun fk6 => ?_
      ·skip
       refine J.lb 1 [] [] [] S1 0 rfl 41 (iv t.gOff) ?_
       refine J.c 3 [] [] [] 44 (t.gOff ≤ 1073741824) (fun fk7 => ?_) fun fk7 => ?_
       ·skip
        refine J.lb 1 [] [] [] S1 0 rfl 46 (.agg #[iv t.gUnit_M, iv t.gUnit_Kg, iv t.gUnit_S, iv t.gUnit_A, iv t.gUnit_K]) ?_
        refine J.c0 0 [] [] [] S1 47 hb67 (r3unit_any (⟨t.gUnit_M, t.gUnit_Kg, t.gUnit_S, t.gUnit_A, t.gUnit_K⟩ : Unt) _) fun w2 S2 => ?_
        refine J.e 3 [.bool (unB (⟨t.gUnit_M, t.gUnit_Kg, t.gUnit_S, t.gUnit_A, t.gUnit_K⟩ : Unt))] Tryz.func29 (hR _ _ ?_)
        exact ⟨congrArg Value.bool (by show _ = decide (fixP t.gBits t.gNum t.gOff t.gDen t.gUnit_M t.gUnit_Kg t.gUnit_S t.gUnit_A t.gUnit_K); cases hz_ : unB (⟨t.gUnit_M, t.gUnit_Kg, t.gUnit_S, t.gUnit_A, t.gUnit_K⟩ : Unt) with | true => (have h_ := unB_iff.1 hz_; try dsimp only at h_; exact (decide_eq_true (by omega)).symm) | false => (have h_ := mt unB_iff.2 (by rw [hz_]; decide); try dsimp only at h_; exact (decide_eq_false (by omega)).symm)), S2.nil⟩
       refine J.e 6 [.bool false] Tryz.func29 (hR _ _ ?_)
       exact ⟨congrArg Value.bool (decide_eq_false (show ¬ (fixP t.gBits t.gNum t.gOff t.gDen t.gUnit_M t.gUnit_Kg t.gUnit_S t.gUnit_A t.gUnit_K) by omega)).symm, S1.nil⟩
      refine J.e 11 [.bool false] Tryz.func29 (hR _ _ ?_)
      exact ⟨congrArg Value.bool (decide_eq_false (show ¬ (fixP t.gBits t.gNum t.gOff t.gDen t.gUnit_M t.gUnit_Kg t.gUnit_S t.gUnit_A t.gUnit_K) by omega)).symm, S1.nil⟩
     refine J.e 16 [.bool false] Tryz.func29 (hR _ _ ?_)
     exact ⟨congrArg Value.bool (decide_eq_false (show ¬ (fixP t.gBits t.gNum t.gOff t.gDen t.gUnit_M t.gUnit_Kg t.gUnit_S t.gUnit_A t.gUnit_K) by omega)).symm, S1.nil⟩
    refine J.e 21 [.bool false] Tryz.func29 (hR _ _ ?_)
    exact ⟨congrArg Value.bool (decide_eq_false (show ¬ (fixP t.gBits t.gNum t.gOff t.gDen t.gUnit_M t.gUnit_Kg t.gUnit_S t.gUnit_A t.gUnit_K) by omega)).symm, S1.nil⟩
   refine J.e 26 [.bool false] Tryz.func29 (hR _ _ ?_)
   exact ⟨congrArg Value.bool (decide_eq_false (show ¬ (fixP t.gBits t.gNum t.gOff t.gDen t.gUnit_M t.gUnit_Kg t.gUnit_S t.gUnit_A t.gUnit_K) by omega)).symm, S1.nil⟩
  refine J.e 31 [.bool false] Tryz.func29 (hR _ _ ?_)
  exact ⟨congrArg Value.bool (decide_eq_false (show ¬ (fixP t.gBits t.gNum t.gOff t.gDen t.gUnit_M t.gUnit_Kg t.gUnit_S t.gUnit_A t.gUnit_K) by omega)).symm, S1.nil⟩
 refine J.lb 1 [] [] [] S1 0 rfl 8 (iv t.gBits) ?_
 refine J.cn 3 [] [] [] 11 (t.gBits = 16) (fun fk8 => ?_) fun fk8 => ?_
 ·skip
  refine J.lb 10 [false] [] [] S1 0 rfl 17 (iv t.gNum) ?_
  refine J.c 2 [] [] [] 19 (t.gNum ≥ 1) (fun fk9 => ?_) fun fk9 => ?_
  ·skip
   refine J.lb 1 [] [] [] S1 0 rfl 21 (iv t.gNum) ?_
   refine J.c 3 [] [] [] 24 (t.gNum ≤ 1048576) (fun fk10 => ?_) fun fk10 => ?_
   ·skip
    refine J.lb 1 [] [] [] S1 0 rfl 26 (iv t.gDen) ?_
    refine J.c 3 [] [] [] 29 (t.gDen ≥ 1) (fun fk11 => ?_) fun fk11 => ?_
    ·skip
     refine J.lb 1 [] [] [] S1 0 rfl 31 (iv t.gDen) ?_
     refine J.c 3 [] [] [] 34 (t.gDen ≤ 1048576) (fun fk12 => ?_) fun fk12 => ?_
     ·skip
      refine J.lb 1 [] [] [] S1 0 rfl 36 (iv t.gOff) ?_
      refine J.c 3 [] [] [] 39 (t.gOff ≥ (-1073741824)) (fun fk13 => ?_) fun fk13 => ?_
      ·skip
       refine J.lb 1 [] [] [] S1 0 rfl 41 (iv t.gOff) ?_
       refine J.c 3 [] [] [] 44 (t.gOff ≤ 1073741824) (fun fk14 => ?_) fun fk14 => ?_
       ·skip
        refine J.lb 1 [] [] [] S1 0 rfl 46 (.agg #[iv t.gUnit_M, iv t.gUnit_Kg, iv t.gUnit_S, iv t.gUnit_A, iv t.gUnit_K]) ?_
        refine J.c0 0 [] [] [] S1 47 hb67 (r3unit_any (⟨t.gUnit_M, t.gUnit_Kg, t.gUnit_S, t.gUnit_A, t.gUnit_K⟩ : Unt) _) fun w3 S3 => ?_
        refine J.e 3 [.bool (unB (⟨t.gUnit_M, t.gUnit_Kg, t.gUnit_S, t.gUnit_A, t.gUnit_K⟩ : Unt))] Tryz.func29 (hR _ _ ?_)
        exact ⟨congrArg Value.bool (by show _ = decide (fixP t.gBits t.gNum t.gOff t.gDen t.gUnit_M t.gUnit_Kg t.gUnit_S t.gUnit_A t.gUnit_K); cases hz_ : unB (⟨t.gUnit_M, t.gUnit_Kg, t.gUnit_S, t.gUnit_A, t.gUnit_K⟩ : Unt) with | true => (have h_ := unB_iff.1 hz_; try dsimp only at h_; exact (decide_eq_true (by omega)).symm) | false => (have h_ := mt unB_iff.2 (by rw [hz_]; decide); try dsimp only at h_; exact (decide_eq_false (by omega)).symm)), S3.nil⟩
       refine J.e 6 [.bool false] Tryz.func29 (hR _ _ ?_)
       exact ⟨congrArg Value.bool (decide_eq_false (show ¬ (fixP t.gBits t.gNum t.gOff t.gDen t.gUnit_M t.gUnit_Kg t.gUnit_S t.gUnit_A t.gUnit_K) by omega)).symm, S1.nil⟩
      refine J.e 11 [.bool false] Tryz.func29 (hR _ _ ?_)
      exact ⟨congrArg Value.bool (decide_eq_false (show ¬ (fixP t.gBits t.gNum t.gOff t.gDen t.gUnit_M t.gUnit_Kg t.gUnit_S t.gUnit_A t.gUnit_K) by omega)).symm, S1.nil⟩
     refine J.e 16 [.bool false] Tryz.func29 (hR _ _ ?_)
     exact ⟨congrArg Value.bool (decide_eq_false (show ¬ (fixP t.gBits t.gNum t.gOff t.gDen t.gUnit_M t.gUnit_Kg t.gUnit_S t.gUnit_A t.gUnit_K) by omega)).symm, S1.nil⟩
    refine J.e 21 [.bool false] Tryz.func29 (hR _ _ ?_)
    exact ⟨congrArg Value.bool (decide_eq_false (show ¬ (fixP t.gBits t.gNum t.gOff t.gDen t.gUnit_M t.gUnit_Kg t.gUnit_S t.gUnit_A t.gUnit_K) by omega)).symm, S1.nil⟩
   refine J.e 26 [.bool false] Tryz.func29 (hR _ _ ?_)
   exact ⟨congrArg Value.bool (decide_eq_false (show ¬ (fixP t.gBits t.gNum t.gOff t.gDen t.gUnit_M t.gUnit_Kg t.gUnit_S t.gUnit_A t.gUnit_K) by omega)).symm, S1.nil⟩
  refine J.e 31 [.bool false] Tryz.func29 (hR _ _ ?_)
  exact ⟨congrArg Value.bool (decide_eq_false (show ¬ (fixP t.gBits t.gNum t.gOff t.gDen t.gUnit_M t.gUnit_Kg t.gUnit_S t.gUnit_A t.gUnit_K) by omega)).symm, S1.nil⟩
 refine J.lb 1 [] [] [] S1 0 rfl 13 (iv t.gBits) ?_
 refine J.cn 3 [] [] [] 15 (t.gBits = 32) (fun fk15 => ?_) fun fk15 => ?_
 ·skip
  refine J.lb 5 [false] [] [] S1 0 rfl 17 (iv t.gNum) ?_
  refine J.c 2 [] [] [] 19 (t.gNum ≥ 1) (fun fk16 => ?_) fun fk16 => ?_
  ·skip
   refine J.lb 1 [] [] [] S1 0 rfl 21 (iv t.gNum) ?_
   refine J.c 3 [] [] [] 24 (t.gNum ≤ 1048576) (fun fk17 => ?_) fun fk17 => ?_
   ·skip
    refine J.lb 1 [] [] [] S1 0 rfl 26 (iv t.gDen) ?_
    refine J.c 3 [] [] [] 29 (t.gDen ≥ 1) (fun fk18 => ?_) fun fk18 => ?_
    ·skip
     refine J.lb 1 [] [] [] S1 0 rfl 31 (iv t.gDen) ?_
     refine J.c 3 [] [] [] 34 (t.gDen ≤ 1048576) (fun fk19 => ?_) fun fk19 => ?_
     ·skip
      refine J.lb 1 [] [] [] S1 0 rfl 36 (iv t.gOff) ?_
      refine J.c 3 [] [] [] 39 (t.gOff ≥ (-1073741824)) (fun fk20 => ?_) fun fk20 => ?_
      ·skip
       refine J.lb 1 [] [] [] S1 0 rfl 41 (iv t.gOff) ?_
       refine J.c 3 [] [] [] 44 (t.gOff ≤ 1073741824) (fun fk21 => ?_) fun fk21 => ?_
       ·skip
        refine J.lb 1 [] [] [] S1 0 rfl 46 (.agg #[iv t.gUnit_M, iv t.gUnit_Kg, iv t.gUnit_S, iv t.gUnit_A, iv t.gUnit_K]) ?_
        refine J.c0 0 [] [] [] S1 47 hb67 (r3unit_any (⟨t.gUnit_M, t.gUnit_Kg, t.gUnit_S, t.gUnit_A, t.gUnit_K⟩ : Unt) _) fun w4 S4 => ?_
        refine J.e 3 [.bool (unB (⟨t.gUnit_M, t.gUnit_Kg, t.gUnit_S, t.gUnit_A, t.gUnit_K⟩ : Unt))] Tryz.func29 (hR _ _ ?_)
        exact ⟨congrArg Value.bool (by show _ = decide (fixP t.gBits t.gNum t.gOff t.gDen t.gUnit_M t.gUnit_Kg t.gUnit_S t.gUnit_A t.gUnit_K); cases hz_ : unB (⟨t.gUnit_M, t.gUnit_Kg, t.gUnit_S, t.gUnit_A, t.gUnit_K⟩ : Unt) with | true => (have h_ := unB_iff.1 hz_; try dsimp only at h_; exact (decide_eq_true (by omega)).symm) | false => (have h_ := mt unB_iff.2 (by rw [hz_]; decide); try dsimp only at h_; exact (decide_eq_false (by omega)).symm)), S4.nil⟩
       refine J.e 6 [.bool false] Tryz.func29 (hR _ _ ?_)
       exact ⟨congrArg Value.bool (decide_eq_false (show ¬ (fixP t.gBits t.gNum t.gOff t.gDen t.gUnit_M t.gUnit_Kg t.gUnit_S t.gUnit_A t.gUnit_K) by omega)).symm, S1.nil⟩
      refine J.e 11 [.bool false] Tryz.func29 (hR _ _ ?_)
      exact ⟨congrArg Value.bool (decide_eq_false (show ¬ (fixP t.gBits t.gNum t.gOff t.gDen t.gUnit_M t.gUnit_Kg t.gUnit_S t.gUnit_A t.gUnit_K) by omega)).symm, S1.nil⟩
     refine J.e 16 [.bool false] Tryz.func29 (hR _ _ ?_)
     exact ⟨congrArg Value.bool (decide_eq_false (show ¬ (fixP t.gBits t.gNum t.gOff t.gDen t.gUnit_M t.gUnit_Kg t.gUnit_S t.gUnit_A t.gUnit_K) by omega)).symm, S1.nil⟩
    refine J.e 21 [.bool false] Tryz.func29 (hR _ _ ?_)
    exact ⟨congrArg Value.bool (decide_eq_false (show ¬ (fixP t.gBits t.gNum t.gOff t.gDen t.gUnit_M t.gUnit_Kg t.gUnit_S t.gUnit_A t.gUnit_K) by omega)).symm, S1.nil⟩
   refine J.e 26 [.bool false] Tryz.func29 (hR _ _ ?_)
   exact ⟨congrArg Value.bool (decide_eq_false (show ¬ (fixP t.gBits t.gNum t.gOff t.gDen t.gUnit_M t.gUnit_Kg t.gUnit_S t.gUnit_A t.gUnit_K) by omega)).symm, S1.nil⟩
  refine J.e 31 [.bool false] Tryz.func29 (hR _ _ ?_)
  exact ⟨congrArg Value.bool (decide_eq_false (show ¬ (fixP t.gBits t.gNum t.gOff t.gDen t.gUnit_M t.gUnit_Kg t.gUnit_S t.gUnit_A t.gUnit_K) by omega)).symm, S1.nil⟩
 refine J.e 5 [.bool false] Tryz.func29 (hR _ _ ?_)
 exact ⟨congrArg Value.bool (decide_eq_false (show ¬ (fixP t.gBits t.gNum t.gOff t.gDen t.gUnit_M t.gUnit_Kg t.gUnit_S t.gUnit_A t.gUnit_K) by omega)).symm, S1.nil⟩

end Go.Proofs.YtaoolgcddapegaaGreatDoor

namespace Go.Proofs.YtaoolgcddapegaaGreatDoor
open Go.Eng Go.RowKit
set_option linter.unusedSimpArgs false
set_option linter.unusedVariables false
set_option maxRecDepth 20000
set_option maxHeartbeats 20000000
structure Ins where
  gOp : Int
  gA : Int
  gB : Int
  gC : Int
  gK : Int
def insE (x : Ins) : List Value := [iv x.gOp, iv x.gA, iv x.gB, iv x.gC, iv x.gK]
def insQ (w : World) (x : Ins) : Prop := ((-9223372036854775808) ≤ x.gOp ∧ x.gOp ≤ 9223372036854775807) ∧ ((-9223372036854775808) ≤ x.gA ∧ x.gA ≤ 9223372036854775807) ∧ ((-9223372036854775808) ≤ x.gB ∧ x.gB ≤ 9223372036854775807) ∧ ((-9223372036854775808) ≤ x.gC ∧ x.gC ≤ 9223372036854775807) ∧ ((-9223372036854775808) ≤ x.gK ∧ x.gK ≤ 9223372036854775807) ∧ True
theorem insQ_sep {w0 w : World} {L : List Eng.Claim} {x : Ins} (h : insQ w0 x) (S : Sep w0 L w) : insQ w x := by
  obtain ⟨hgOp, hgA, hgB, hgC, hgK, _⟩ := h
  exact ⟨hgOp, hgA, hgB, hgC, hgK, trivial⟩
abbrev insC (x : Ins) : List Value := [iv x.gOp, iv x.gA, iv x.gB, iv x.gC, iv x.gK]
abbrev insA (x : Ins) : Array Value := #[iv x.gOp, iv x.gA, iv x.gB, iv x.gC, iv x.gK]
structure Rwo where
  gname : ByteArray
  gfields : ByteArray
  gcost : Int
def rwoE (x : Rwo) : List Value := [.string x.gname, .string x.gfields, iv x.gcost]
abbrev rwoC (x : Rwo) : List Value := [.string x.gname, .string x.gfields, iv x.gcost]
abbrev rwoA (x : Rwo) : Array Value := #[.string x.gname, .string x.gfields, iv x.gcost]
/-! layer 13: operations, their fields, and what a well-formed instruction is -/
def fieldsF (op : Int) : ByteArray := if op ≤ 3 then ⟨#[65, 75]⟩ else if op = 4 ∨ op = 18 then ⟨#[65, 66]⟩ else if op = 9 ∨ op = 10 ∨ op = 20 ∨ op = 22 then ⟨#[65, 66, 75]⟩ else if op = 11 ∨ op = 12 ∨ op = 15 ∨ op = 16 ∨ op = 17 then ⟨#[65, 66, 67]⟩ else ⟨#[65, 66, 67, 75]⟩
def hasF (s : ByteArray) (c : Int) : Bool := (ls s).any fun x => (x.toNat : Int) == c
abbrev useC (op : Int) : Prop := 5 ≤ op ∧ op ≤ 8 ∨ 11 ≤ op ∧ op ≤ 17 ∨ op = 19 ∨ op = 21
abbrev useK (op : Int) : Prop := op ≤ 3 ∨ 5 ≤ op ∧ op ≤ 10 ∨ op = 13 ∨ op = 14 ∨ 19 ≤ op
abbrev typedP (op : Int) : Prop := 5 ≤ op ∧ op ≤ 10 ∨ op = 13 ∨ op = 14
abbrev kP (op k : Int) : Prop :=
  (op = 1 ∧ -1099511627776 ≤ k ∧ k ≤ 1099511627776) ∨ (op = 19 ∧ 0 ≤ k ∧ k ≤ 15) ∨
  (typedP op ∧ 0 ≤ k ∧ k < 2097152 ∧ (k / 128 % 128 = 0 ∨ (op ≠ 9 ∧ op ≠ 10)) ∧ (k % 128 = 0 ∨ (op ≠ 13 ∧ op ≠ 14))) ∨
  (op = 22 ∧ 0 ≤ k ∧ k ≤ 32767 ∧ k % 32 ≤ 20) ∨ (op ≠ 1 ∧ op ≠ 19 ∧ ¬ typedP op ∧ op ≠ 22 ∧ 0 ≤ k ∧ k ≤ 32767)
abbrev formP (op a b c k : Int) : Prop := (1 ≤ op ∧ op ≤ 22) ∧ (0 ≤ a ∧ a ≤ 15) ∧ (0 ≤ b ∧ b ≤ 15) ∧ (0 ≤ c ∧ c ≤ 15) ∧ (4 ≤ op ∨ b = 0) ∧ (useC op ∨ c = 0) ∧ (useK op ∨ k = 0) ∧ kP op k
def kB (op k : Int) : Bool := decide (kP op k)
def formI (op a b c k : Int) : Bool := decide (formP op a b c k)
def formB (i : Ins) : Bool := formI i.gOp i.gA i.gB i.gC i.gK
theorem kB_iff {op k : Int} : kB op k = true ↔ kP op k := by unfold kB; exact decide_eq_true_iff
theorem formI_iff {op a b c k : Int} : formI op a b c k = true ↔ formP op a b c k := by unfold formI; exact decide_eq_true_iff
theorem formB_iff {i : Ins} : formB i = true ↔ formP i.gOp i.gA i.gB i.gC i.gK := formI_iff
theorem ops_cases {op : Int} (h : 1 ≤ op ∧ op ≤ 22) : op = 1 ∨ op = 2 ∨ op = 3 ∨ op = 4 ∨ op = 5 ∨ op = 6 ∨ op = 7 ∨ op = 8 ∨ op = 9 ∨ op = 10 ∨ op = 11 ∨ op = 12 ∨ op = 13 ∨ op = 14 ∨ op = 15 ∨ op = 16 ∨ op = 17 ∨ op = 18 ∨ op = 19 ∨ op = 20 ∨ op = 21 ∨ op = 22 := by omega
theorem has_B {op : Int} (h : 1 ≤ op ∧ op ≤ 22) : hasF (fieldsF op) 66 = true ↔ 4 ≤ op := by
  rcases ops_cases h with rfl | rfl | rfl | rfl | rfl | rfl | rfl | rfl | rfl | rfl | rfl | rfl | rfl | rfl | rfl | rfl | rfl | rfl | rfl | rfl | rfl | rfl <;> decide
theorem has_C {op : Int} (h : 1 ≤ op ∧ op ≤ 22) : hasF (fieldsF op) 67 = true ↔ useC op := by
  rcases ops_cases h with rfl | rfl | rfl | rfl | rfl | rfl | rfl | rfl | rfl | rfl | rfl | rfl | rfl | rfl | rfl | rfl | rfl | rfl | rfl | rfl | rfl | rfl <;> decide
theorem has_K {op : Int} (h : 1 ≤ op ∧ op ≤ 22) : hasF (fieldsF op) 75 = true ↔ useK op := by
  rcases ops_cases h with rfl | rfl | rfl | rfl | rfl | rfl | rfl | rfl | rfl | rfl | rfl | rfl | rfl | rfl | rfl | rfl | rfl | rfl | rfl | rfl | rfl | rfl <;> decide
theorem fields_size {op : Int} : 2 ≤ (fieldsF op).size ∧ (fieldsF op).size ≤ 4 := by
  unfold fieldsF; repeat' split
  all_goals exact ⟨by decide, by decide⟩

def nameL : List ByteArray := [ByteArray.empty, ⟨#[99, 111, 110, 115, 116]⟩, ⟨#[108, 111, 97, 100]⟩, ⟨#[115, 116, 111, 114, 101]⟩, ⟨#[109, 111, 118, 101]⟩, ⟨#[97, 100, 100]⟩, ⟨#[115, 117, 98]⟩, ⟨#[109, 117, 108]⟩, ⟨#[100, 105, 118]⟩, ⟨#[110, 101, 103]⟩, ⟨#[99, 111, 110, 118, 101, 114, 116]⟩, ⟨#[109, 105, 110]⟩, ⟨#[109, 97, 120]⟩, ⟨#[108, 101, 115, 115]⟩, ⟨#[101, 113, 117, 97, 108]⟩, ⟨#[98, 101, 108, 111, 119]⟩, ⟨#[97, 110, 100]⟩, ⟨#[111, 114]⟩, ⟨#[110, 111, 116]⟩, ⟨#[115, 101, 108, 101, 99, 116]⟩, ⟨#[99, 117, 114, 118, 101]⟩, ⟨#[109, 97, 112]⟩, ⟨#[108, 97, 103]⟩]
abbrev rwo0 : Rwo := ⟨ByteArray.empty, ByteArray.empty, 0⟩
def rowsL : List Rwo := [⟨ByteArray.empty, ByteArray.empty, 0⟩, ⟨⟨#[99, 111, 110, 115, 116]⟩, ⟨#[65, 75]⟩, 1⟩, ⟨⟨#[108, 111, 97, 100]⟩, ⟨#[65, 75]⟩, 2⟩, ⟨⟨#[115, 116, 111, 114, 101]⟩, ⟨#[65, 75]⟩, 2⟩, ⟨⟨#[109, 111, 118, 101]⟩, ⟨#[65, 66]⟩, 1⟩, ⟨⟨#[97, 100, 100]⟩, ⟨#[65, 66, 67, 75]⟩, 3⟩, ⟨⟨#[115, 117, 98]⟩, ⟨#[65, 66, 67, 75]⟩, 3⟩, ⟨⟨#[109, 117, 108]⟩, ⟨#[65, 66, 67, 75]⟩, 4⟩, ⟨⟨#[100, 105, 118]⟩, ⟨#[65, 66, 67, 75]⟩, 12⟩, ⟨⟨#[110, 101, 103]⟩, ⟨#[65, 66, 75]⟩, 3⟩, ⟨⟨#[99, 111, 110, 118, 101, 114, 116]⟩, ⟨#[65, 66, 75]⟩, 4⟩, ⟨⟨#[109, 105, 110]⟩, ⟨#[65, 66, 67]⟩, 1⟩, ⟨⟨#[109, 97, 120]⟩, ⟨#[65, 66, 67]⟩, 1⟩, ⟨⟨#[108, 101, 115, 115]⟩, ⟨#[65, 66, 67, 75]⟩, 3⟩, ⟨⟨#[101, 113, 117, 97, 108]⟩, ⟨#[65, 66, 67, 75]⟩, 4⟩, ⟨⟨#[98, 101, 108, 111, 119]⟩, ⟨#[65, 66, 67]⟩, 1⟩, ⟨⟨#[97, 110, 100]⟩, ⟨#[65, 66, 67]⟩, 1⟩, ⟨⟨#[111, 114]⟩, ⟨#[65, 66, 67]⟩, 1⟩, ⟨⟨#[110, 111, 116]⟩, ⟨#[65, 66]⟩, 1⟩, ⟨⟨#[115, 101, 108, 101, 99, 116]⟩, ⟨#[65, 66, 67, 75]⟩, 2⟩, ⟨⟨#[99, 117, 114, 118, 101]⟩, ⟨#[65, 66, 75]⟩, 20⟩, ⟨⟨#[109, 97, 112]⟩, ⟨#[65, 66, 67, 75]⟩, 40⟩, ⟨⟨#[108, 97, 103]⟩, ⟨#[65, 66, 75]⟩, 8⟩]
def costL : List Int := [0, 1, 2, 2, 1, 3, 3, 4, 12, 3, 4, 1, 1, 3, 4, 1, 1, 1, 1, 2, 20, 40, 8]
theorem rows_at {op : Int} (h : 1 ≤ op ∧ op ≤ 22) : (rowsL.getD op.toNat rwo0).gname = nameL.getD op.toNat ByteArray.empty ∧ (rowsL.getD op.toNat rwo0).gfields = fieldsF op ∧ (rowsL.getD op.toNat rwo0).gcost = costL.getD op.toNat 0 := by
  rcases ops_cases h with rfl | rfl | rfl | rfl | rfl | rfl | rfl | rfl | rfl | rfl | rfl | rfl | rfl | rfl | rfl | rfl | rfl | rfl | rfl | rfl | rfl | rfl <;> exact ⟨rfl, rfl, rfl⟩
theorem rows_len : rowsL.length = 23 := rfl
theorem name_size {op : Int} (h : 1 ≤ op ∧ op ≤ 22) : (nameL.getD op.toNat ByteArray.empty).size ≤ 7 := by
  rcases ops_cases h with rfl | rfl | rfl | rfl | rfl | rfl | rfl | rfl | rfl | rfl | rfl | rfl | rfl | rfl | rfl | rfl | rfl | rfl | rfl | rfl | rfl | rfl <;> decide

theorem hb84 : HasBody Tryz.prog 84 := fun _ _ => by kernel_rfl
def idxB (s : ByteArray) (c : Int) : Int := Lib.indexByte s.data.toList c.toNat.toUInt8
theorem indexbyte_any (s : ByteArray) (c : Int) (w : World) : Ret Tryz.prog 84 #[.string s, .int .u8 c] w (fun v w' => v = iv (idxB s c) ∧ Sep w [] w') :=
  Ret.of_calls (Tryz.strings_IndexByte s c w) fun w' hw => ⟨rfl, by subst hw; exact .refl _⟩
theorem hb85 : HasBody Tryz.prog 85 := fun _ _ => by kernel_rfl
def sufB (s p : ByteArray) : Bool := Lib.hasSuffix s.data.toList p.data.toList
theorem hassuffix_any (s p : ByteArray) (w : World) (hs : s.size ≤ 9223372036854775807) : Ret Tryz.prog 85 #[.string s, .string p] w (fun v w' => v = .bool (sufB s p) ∧ Sep w [] w') :=
  Ret.of_calls (Tryz.strings_HasSuffix s p w hs) fun w' hw => ⟨rfl, by subst hw; exact .refl _⟩
theorem hb54 : HasBody Tryz.prog 54 := fun _ _ => by kernel_rfl
theorem trimprefix_any (s p : ByteArray) (w : World) : Ret Tryz.prog 54 #[.string s, .string p] w (fun v w' => v = .string ⟨(Lib.trimPrefix s.data.toList p.data.toList).toArray⟩ ∧ Sep w [] w') :=
  Ret.of_calls (Tryz.strings_TrimPrefix s p w) fun w' hw => ⟨rfl, by subst hw; exact .refl _⟩
theorem idx_A {op : Int} (h : 1 ≤ op ∧ op ≤ 22) : idxB (rowsL.getD op.toNat rwo0).gfields 65 < 0 ↔ ¬ (1 ≤ op) := by
  rcases ops_cases h with rfl | rfl | rfl | rfl | rfl | rfl | rfl | rfl | rfl | rfl | rfl | rfl | rfl | rfl | rfl | rfl | rfl | rfl | rfl | rfl | rfl | rfl <;> decide
theorem idx_B {op : Int} (h : 1 ≤ op ∧ op ≤ 22) : idxB (rowsL.getD op.toNat rwo0).gfields 66 < 0 ↔ ¬ (4 ≤ op) := by
  rcases ops_cases h with rfl | rfl | rfl | rfl | rfl | rfl | rfl | rfl | rfl | rfl | rfl | rfl | rfl | rfl | rfl | rfl | rfl | rfl | rfl | rfl | rfl | rfl <;> decide
theorem idx_C {op : Int} (h : 1 ≤ op ∧ op ≤ 22) : idxB (rowsL.getD op.toNat rwo0).gfields 67 < 0 ↔ ¬ (useC op) := by
  rcases ops_cases h with rfl | rfl | rfl | rfl | rfl | rfl | rfl | rfl | rfl | rfl | rfl | rfl | rfl | rfl | rfl | rfl | rfl | rfl | rfl | rfl | rfl | rfl <;> decide
theorem suf_K {op : Int} (h : 1 ≤ op ∧ op ≤ 22) : sufB (rowsL.getD op.toNat rwo0).gfields ⟨#[75]⟩ = true ↔ useK op := by
  rcases ops_cases h with rfl | rfl | rfl | rfl | rfl | rfl | rfl | rfl | rfl | rfl | rfl | rfl | rfl | rfl | rfl | rfl | rfl | rfl | rfl | rfl | rfl | rfl <;> decide
theorem rows_size {op : Int} (h : 1 ≤ op ∧ op ≤ 22) : (rowsL.getD op.toNat rwo0).gname.size ≤ 7 ∧ 2 ≤ (rowsL.getD op.toNat rwo0).gfields.size ∧ (rowsL.getD op.toNat rwo0).gfields.size ≤ 4 := by
  rcases ops_cases h with rfl | rfl | rfl | rfl | rfl | rfl | rfl | rfl | rfl | rfl | rfl | rfl | rfl | rfl | rfl | rfl | rfl | rfl | rfl | rfl | rfl | rfl <;> decide
def fldF (i : Ins) (c : Int) : Int := if c = 65 then i.gA else if c = 66 then i.gB else if c = 67 then i.gC else i.gK
theorem hb52 : HasBody Tryz.prog 52 := fun _ _ => by kernel_rfl

theorem rows_any  (w : World) : Ret Tryz.prog 52 #[] w (fun v w' => ∃ b, v = .slice (some ⟨b, 0, none⟩) 23 23 ∧ Sep w [box b (rowsL.flatMap rwoE) 109] w') := by
 refine Ret.st (N := 25) Tryz.func52 fun R hR S0 => ?_
 refine J.r 29 [] [(23, .agg #[.string ⟨#[108, 97, 103]⟩, .string ⟨#[65, 66, 75]⟩, iv 8]), (22, .agg #[.string ⟨#[109, 97, 112]⟩, .string ⟨#[65, 66, 67, 75]⟩, iv 40]), (21, .agg #[.string ⟨#[99, 117, 114, 118, 101]⟩, .string ⟨#[65, 66, 75]⟩, iv 20]), (20, .agg #[.string ⟨#[115, 101, 108, 101, 99, 116]⟩, .string ⟨#[65, 66, 67, 75]⟩, iv 2]), (19, .agg #[.string ⟨#[110, 111, 116]⟩, .string ⟨#[65, 66]⟩, iv 1]), (18, .agg #[.string ⟨#[111, 114]⟩, .string ⟨#[65, 66, 67]⟩, iv 1]), (17, .agg #[.string ⟨#[97, 110, 100]⟩, .string ⟨#[65, 66, 67]⟩, iv 1]), (16, .agg #[.string ⟨#[98, 101, 108, 111, 119]⟩, .string ⟨#[65, 66, 67]⟩, iv 1]), (15, .agg #[.string ⟨#[101, 113, 117, 97, 108]⟩, .string ⟨#[65, 66, 67, 75]⟩, iv 4]), (14, .agg #[.string ⟨#[108, 101, 115, 115]⟩, .string ⟨#[65, 66, 67, 75]⟩, iv 3]), (13, .agg #[.string ⟨#[109, 97, 120]⟩, .string ⟨#[65, 66, 67]⟩, iv 1]), (12, .agg #[.string ⟨#[109, 105, 110]⟩, .string ⟨#[65, 66, 67]⟩, iv 1]), (11, .agg #[.string ⟨#[99, 111, 110, 118, 101, 114, 116]⟩, .string ⟨#[65, 66, 75]⟩, iv 4]), (10, .agg #[.string ⟨#[110, 101, 103]⟩, .string ⟨#[65, 66, 75]⟩, iv 3]), (9, .agg #[.string ⟨#[100, 105, 118]⟩, .string ⟨#[65, 66, 67, 75]⟩, iv 12]), (8, .agg #[.string ⟨#[109, 117, 108]⟩, .string ⟨#[65, 66, 67, 75]⟩, iv 4]), (7, .agg #[.string ⟨#[115, 117, 98]⟩, .string ⟨#[65, 66, 67, 75]⟩, iv 3]), (6, .agg #[.string ⟨#[97, 100, 100]⟩, .string ⟨#[65, 66, 67, 75]⟩, iv 3]), (5, .agg #[.string ⟨#[109, 111, 118, 101]⟩, .string ⟨#[65, 66]⟩, iv 1]), (4, .agg #[.string ⟨#[115, 116, 111, 114, 101]⟩, .string ⟨#[65, 75]⟩, iv 2]), (3, .agg #[.string ⟨#[108, 111, 97, 100]⟩, .string ⟨#[65, 75]⟩, iv 2]), (2, .agg #[.string ⟨#[99, 111, 110, 115, 116]⟩, .string ⟨#[65, 75]⟩, iv 1]), (1, .agg #[.string ByteArray.empty, .string ByteArray.empty, iv 0])] [] ?_
 refine J.newSlice S0 24 23 [.string ByteArray.empty, .string ByteArray.empty, iv 0, .string ⟨#[99, 111, 110, 115, 116]⟩, .string ⟨#[65, 75]⟩, iv 1, .string ⟨#[108, 111, 97, 100]⟩, .string ⟨#[65, 75]⟩, iv 2, .string ⟨#[115, 116, 111, 114, 101]⟩, .string ⟨#[65, 75]⟩, iv 2, .string ⟨#[109, 111, 118, 101]⟩, .string ⟨#[65, 66]⟩, iv 1, .string ⟨#[97, 100, 100]⟩, .string ⟨#[65, 66, 67, 75]⟩, iv 3, .string ⟨#[115, 117, 98]⟩, .string ⟨#[65, 66, 67, 75]⟩, iv 3, .string ⟨#[109, 117, 108]⟩, .string ⟨#[65, 66, 67, 75]⟩, iv 4, .string ⟨#[100, 105, 118]⟩, .string ⟨#[65, 66, 67, 75]⟩, iv 12, .string ⟨#[110, 101, 103]⟩, .string ⟨#[65, 66, 75]⟩, iv 3, .string ⟨#[99, 111, 110, 118, 101, 114, 116]⟩, .string ⟨#[65, 66, 75]⟩, iv 4, .string ⟨#[109, 105, 110]⟩, .string ⟨#[65, 66, 67]⟩, iv 1, .string ⟨#[109, 97, 120]⟩, .string ⟨#[65, 66, 67]⟩, iv 1, .string ⟨#[108, 101, 115, 115]⟩, .string ⟨#[65, 66, 67, 75]⟩, iv 3, .string ⟨#[101, 113, 117, 97, 108]⟩, .string ⟨#[65, 66, 67, 75]⟩, iv 4, .string ⟨#[98, 101, 108, 111, 119]⟩, .string ⟨#[65, 66, 67]⟩, iv 1, .string ⟨#[97, 110, 100]⟩, .string ⟨#[65, 66, 67]⟩, iv 1, .string ⟨#[111, 114]⟩, .string ⟨#[65, 66, 67]⟩, iv 1, .string ⟨#[110, 111, 116]⟩, .string ⟨#[65, 66]⟩, iv 1, .string ⟨#[115, 101, 108, 101, 99, 116]⟩, .string ⟨#[65, 66, 67, 75]⟩, iv 2, .string ⟨#[99, 117, 114, 118, 101]⟩, .string ⟨#[65, 66, 75]⟩, iv 20, .string ⟨#[109, 97, 112]⟩, .string ⟨#[65, 66, 67, 75]⟩, iv 40, .string ⟨#[108, 97, 103]⟩, .string ⟨#[65, 66, 75]⟩, iv 8] 109 (by kernel_rfl) ?_
 intro b1 w1 S1
 refine J.e 2 [.slice (some ⟨b1, 0, none⟩) 23 23] Tryz.func52 (hR _ _ ?_)
 exact ⟨_, rfl, S1⟩

theorem hb83 : HasBody Tryz.prog 83 := fun _ _ => by kernel_rfl

theorem known_any (op : Int) (w : World) : Ret Tryz.prog 83 #[iv op] w (fun v w' => v = .bool (decide (1 ≤ op ∧ op ≤ 22)) ∧ Sep w [] w') := by
 refine Ret.st (N := 9) Tryz.func83 fun R hR S0 => ?_
 refine J.c 9 [] [] [] 5 (op ≥ 1) (fun fk1 => ?_) fun fk1 => ?_
 ·skip
  refine J.e 5 [.bool (decide (op ≤ 22))] Tryz.func83 (hR _ _ ?_)
  exact ⟨congrArg Value.bool (by show (decide (op ≤ 22)) = decide (1 ≤ op ∧ op ≤ 22); by_cases hz_ : op ≤ 22; (rw [(decide_eq_true hz_)]; first | exact (decide_eq_true (by omega)).symm | exact (decide_eq_false (by omega)).symm); (rw [(decide_eq_false hz_)]; first | exact (decide_eq_false (by omega)).symm | exact (decide_eq_true (by omega)).symm)), S0.nil⟩
 refine J.e 5 [.bool false] Tryz.func83 (hR _ _ ?_)
 exact ⟨congrArg Value.bool (decide_eq_false (show ¬ (1 ≤ op ∧ op ≤ 22) by omega)).symm, S0.nil⟩

theorem hb132 : HasBody Tryz.prog 132 := fun _ _ => by kernel_rfl

theorem typed_any (op : Int) (w : World) : Ret Tryz.prog 132 #[iv op] w (fun v w' => v = .bool (decide (typedP op)) ∧ Sep w [] w') := by
 refine Ret.st (N := 17) Tryz.func132 fun R hR S0 => ?_
 refine J.c 9 [] [] [] 5 (op ≥ 5) (fun fk1 => ?_) fun fk1 => ?_
 ·skip
  refine J.c 4 [] [] [] 9 (op ≤ 10) (fun fk2 => ?_) fun fk2 => ?_
  ·skip
   refine J.e 9 [.bool true] Tryz.func132 (hR _ _ ?_)
   exact ⟨congrArg Value.bool (decide_eq_true (show typedP op by omega)).symm, S0.nil⟩
  refine J.c 4 [] [] [] 13 (op = 13) (fun fk3 => ?_) fun fk3 => ?_
  ·skip
   refine J.e 5 [.bool true] Tryz.func132 (hR _ _ ?_)
   exact ⟨congrArg Value.bool (decide_eq_true (show typedP op by omega)).symm, S0.nil⟩
  refine J.e 5 [.bool (op == 14)] Tryz.func132 (hR _ _ ?_)
  exact ⟨congrArg Value.bool (by show (op == 14) = decide (typedP op); by_cases hz_ : op = 14; (rw [(beq_iff_eq.2 hz_)]; first | exact (decide_eq_true (by omega)).symm | exact (decide_eq_false (by omega)).symm); (rw [(beq_eq_false_iff_ne.2 hz_)]; first | exact (decide_eq_false (by omega)).symm | exact (decide_eq_true (by omega)).symm)), S0.nil⟩
 refine J.c 8 [] [] [] 13 (op = 13) (fun fk4 => ?_) fun fk4 => ?_
 ·skip
  refine J.e 5 [.bool true] Tryz.func132 (hR _ _ ?_)
  exact ⟨congrArg Value.bool (decide_eq_true (show typedP op by omega)).symm, S0.nil⟩
 refine J.e 5 [.bool (op == 14)] Tryz.func132 (hR _ _ ?_)
 exact ⟨congrArg Value.bool (by show (op == 14) = decide (typedP op); by_cases hz_ : op = 14; (rw [(beq_iff_eq.2 hz_)]; first | exact (decide_eq_true (by omega)).symm | exact (decide_eq_false (by omega)).symm); (rw [(beq_eq_false_iff_ne.2 hz_)]; first | exact (decide_eq_false (by omega)).symm | exact (decide_eq_true (by omega)).symm)), S0.nil⟩

theorem hb131 : HasBody Tryz.prog 131 := fun _ _ => by kernel_rfl

theorem split3_any (k : Int) (w : World) (hk : -9223372036854775808 ≤ k ∧ k ≤ 9223372036854775807) : Ret Tryz.prog 131 #[iv k] w (fun v w' => v = .tuple #[iv (k / 16384), iv (k / 128 % 128), iv (k % 128)] ∧ Sep w [] w') := by
 refine Ret.st (N := 12) Tryz.func131 fun R hR S0 => ?_
 refine J.h 10 [] [] [] 6 (iv (Int.fdiv k (2 ^ 14))) (iv (k / 16384)) (congrArg (Value.int .i64) (shr_lit _ _ (by decide))) ?_
 refine J.h 2 [] [] [] 8 (iv (Int.fdiv k (2 ^ 7))) (iv (k / 128)) (congrArg (Value.int .i64) (shr_lit _ _ (by decide))) ?_
 refine J.h 1 [] [] [] 9 (iv (IntKind.wrap .i64 ((BitVec.ofInt 64 (k / 128) &&& (BitVec.ofInt 64 (127 : Int))).toNat : Int))) (iv ((k / 128) % 128)) (congrArg (Value.int .i64) (and_mask_i64 7 _ _ (by rfl) (by decide))) ?_
 refine J.h 2 [] [] [] 11 (iv (IntKind.wrap .i64 ((BitVec.ofInt 64 k &&& (BitVec.ofInt 64 (127 : Int))).toNat : Int))) (iv (k % 128)) (congrArg (Value.int .i64) (and_mask_i64 7 _ _ (by rfl) (by decide))) ?_
 refine J.e 4 [iv (k / 16384), iv ((k / 128) % 128), iv (k % 128)] Tryz.func131 (hR _ _ ?_)
 exact ⟨rfl, S0.nil⟩

theorem hb57 : HasBody Tryz.prog 57 := fun _ _ => by kernel_rfl

theorem field_any (i : Ins) (c : Int) (w : World) : Ret Tryz.prog 57 #[.agg (insA i), .int .u8 c] w (fun v w' => v = iv (fldF i c) ∧ Sep w [] w') := by
 refine Ret.st (N := 20) Tryz.func57 fun R hR S0 => ?_
 refine J.nw 2 [] [] [] S0 2 (insC i) 48 fun b1 w1 S1 => ?_
 refine J.c 13 [] [(5, .int .u8 c)] [] 6 (c = 65) (fun fk1 => ?_) fun fk1 => ?_
 ·skip
  refine J.lb 4 [true] [] [] S1 0 rfl 9 (iv i.gA) ?_
  refine J.e 2 [iv i.gA] Tryz.func57 (hR _ _ ?_)
  exact ⟨congrArg (Value.int .i64) (by unfold fldF; (repeat first | rw [if_pos (by omega)] | rw [if_neg (by omega)]) <;> rfl), S1.nil⟩
 refine J.c 6 [false] [] [] 10 (c = 66) (fun fk2 => ?_) fun fk2 => ?_
 ·skip
  refine J.lb 4 [true] [] [] S1 0 rfl 13 (iv i.gB) ?_
  refine J.e 2 [iv i.gB] Tryz.func57 (hR _ _ ?_)
  exact ⟨congrArg (Value.int .i64) (by unfold fldF; (repeat first | rw [if_pos (by omega)] | rw [if_neg (by omega)]) <;> rfl), S1.nil⟩
 refine J.c 6 [false] [] [] 14 (c = 67) (fun fk3 => ?_) fun fk3 => ?_
 ·skip
  refine J.lb 4 [true] [] [] S1 0 rfl 17 (iv i.gC) ?_
  refine J.e 2 [iv i.gC] Tryz.func57 (hR _ _ ?_)
  exact ⟨congrArg (Value.int .i64) (by unfold fldF; (repeat first | rw [if_pos (by omega)] | rw [if_neg (by omega)]) <;> rfl), S1.nil⟩
 refine J.lb 6 [false] [] [] S1 0 rfl 19 (iv i.gK) ?_
 refine J.e 2 [iv i.gK] Tryz.func57 (hR _ _ ?_)
 exact ⟨congrArg (Value.int .i64) (by unfold fldF; (repeat first | rw [if_pos (by omega)] | rw [if_neg (by omega)]) <;> rfl), S1.nil⟩

theorem hb86 : HasBody Tryz.prog 86 := fun _ _ => by kernel_rfl

theorem constant_any (i : Ins) (w : World) (hi : insQ w i) : Ret Tryz.prog 86 #[.agg (insA i)] w (fun v w' => v = .bool (kB i.gOp i.gK) ∧ Sep w [] w') := by
 refine Ret.st (N := 103) Tryz.func86 fun R hR S0 => ?_
 obtain ⟨q1, q2, q3, q4, q5, _⟩ := id hi
 refine J.nw 2 [] [] [] S0 1 (insC i) 48 fun b1 w1 S1 => ?_
 refine J.lb 5 [] [] [] S1 0 rfl 8 (iv i.gK) ?_
 refine J.c0 0 [] [] [] S1 9 hb131 (split3_any i.gK _ (by omega)) fun w2 S2 => ?_
 refine J.lb 13 [] [(5, iv (i.gK % 128)), (4, iv (i.gK / 128 % 128))] [] S2 0 rfl 15 (iv i.gOp) ?_
 refine J.c 3 [] [] [] 13 (i.gOp = 1) (fun fk1 => ?_) fun fk1 => ?_
 ·skip
  refine J.lb 4 [true] [] [] S2 0 rfl 18 (iv i.gK) ?_
  refine J.c 2 [] [] [] 20 (i.gK ≥ (-1099511627776)) (fun fk2 => ?_) fun fk2 => ?_
  ·skip
   refine J.lb 1 [] [] [] S2 0 rfl 22 (iv i.gK) ?_
   refine J.e 4 [.bool (decide (i.gK ≤ 1099511627776))] Tryz.func86 (hR _ _ ?_)
   exact ⟨congrArg Value.bool (by show (decide (i.gK ≤ 1099511627776)) = decide (kP i.gOp i.gK); by_cases hz_ : i.gK ≤ 1099511627776; (rw [(decide_eq_true hz_)]; first | exact (decide_eq_true (by omega)).symm | exact (decide_eq_false (by omega)).symm); (rw [(decide_eq_false hz_)]; first | exact (decide_eq_false (by omega)).symm | exact (decide_eq_true (by omega)).symm)), S2.nil⟩
  refine J.e 6 [.bool false] Tryz.func86 (hR _ _ ?_)
  exact ⟨congrArg Value.bool (decide_eq_false (show ¬ (kP i.gOp i.gK) by omega)).symm, S2.nil⟩
 refine J.lb 4 [false] [] [] S2 0 rfl 27 (iv i.gOp) ?_
 refine J.c 3 [] [] [] 25 (i.gOp = 19) (fun fk3 => ?_) fun fk3 => ?_
 ·skip
  refine J.lb 4 [true] [] [] S2 0 rfl 30 (iv i.gK) ?_
  refine J.c 2 [] [] [] 32 (i.gK ≥ 0) (fun fk4 => ?_) fun fk4 => ?_
  ·skip
   refine J.lb 1 [] [] [] S2 0 rfl 34 (iv i.gK) ?_
   refine J.e 4 [.bool (decide (i.gK < 16))] Tryz.func86 (hR _ _ ?_)
   exact ⟨congrArg Value.bool (by show (decide (i.gK < 16)) = decide (kP i.gOp i.gK); by_cases hz_ : i.gK < 16; (rw [(decide_eq_true hz_)]; first | exact (decide_eq_true (by omega)).symm | exact (decide_eq_false (by omega)).symm); (rw [(decide_eq_false hz_)]; first | exact (decide_eq_false (by omega)).symm | exact (decide_eq_true (by omega)).symm)), S2.nil⟩
  refine J.e 6 [.bool false] Tryz.func86 (hR _ _ ?_)
  exact ⟨congrArg Value.bool (decide_eq_false (show ¬ (kP i.gOp i.gK) by omega)).symm, S2.nil⟩
 refine J.lb 4 [false] [] [] S2 0 rfl 39 (iv i.gOp) ?_
 refine J.c0 0 [] [] [] S2 40 hb132 (typed_any i.gOp _) fun w3 S3 => ?_
 refine J.b 2 [] [] [] 37 (decide (typedP i.gOp)) (fun fk5 => ?_) fun fk5 => ?_
 ·skip
  have fb1 := of_decide_eq_true fk5
  refine J.lb 4 [true] [] [] S3 0 rfl 42 (iv i.gK) ?_
  refine J.c 2 [] [] [] 44 (i.gK ≥ 0) (fun fk6 => ?_) fun fk6 => ?_
  ·skip
   refine J.lb 1 [] [] [] S3 0 rfl 46 (iv i.gK) ?_
   refine J.c 3 [] [] [] 49 (i.gK < 2097152) (fun fk7 => ?_) fun fk7 => ?_
   ·skip
    refine J.c 3 [] [] [] 52 ((i.gK / 128 % 128) = 0) (fun fk8 => ?_) fun fk8 => ?_
    ·skip
     refine J.c 14 [] [(63, .bool true)] [] 66 ((i.gK % 128) = 0) (fun fk9 => ?_) fun fk9 => ?_
     ·skip
      refine J.e 12 [.bool true] Tryz.func86 (hR _ _ ?_)
      exact ⟨congrArg Value.bool (decide_eq_true (show kP i.gOp i.gK by omega)).symm, S3.nil⟩
     refine J.lb 1 [] [] [] S3 0 rfl 68 (iv i.gOp) ?_
     refine J.cn 2 [] [] [] 70 (i.gOp = 13) (fun fk10 => ?_) fun fk10 => ?_
     ·skip
      refine J.e 8 [.bool false] Tryz.func86 (hR _ _ ?_)
      exact ⟨congrArg Value.bool (decide_eq_false (show ¬ (kP i.gOp i.gK) by omega)).symm, S3.nil⟩
     refine J.lb 1 [] [] [] S3 0 rfl 72 (iv i.gOp) ?_
     refine J.e 6 [.bool (i.gOp != 14)] Tryz.func86 (hR _ _ ?_)
     exact ⟨congrArg Value.bool (by show (i.gOp != 14) = decide (kP i.gOp i.gK); by_cases hz_ : i.gOp = 14; (rw [(bne_eq_false_iff_eq.2 hz_)]; first | exact (decide_eq_true (by omega)).symm | exact (decide_eq_false (by omega)).symm); (rw [(bne_iff_ne.2 hz_)]; first | exact (decide_eq_false (by omega)).symm | exact (decide_eq_true (by omega)).symm)), S3.nil⟩
    refine J.lb 1 [] [] [] S3 0 rfl 54 (iv i.gOp) ?_
    refine J.cn 2 [] [] [] 56 (i.gOp = 9) (fun fk11 => ?_) fun fk11 => ?_
    ·skip
     refine J.e 22 [.bool false] Tryz.func86 (hR _ _ ?_)
     exact ⟨congrArg Value.bool (decide_eq_false (show ¬ (kP i.gOp i.gK) by omega)).symm, S3.nil⟩
    refine J.lb 1 [] [] [] S3 0 rfl 58 (iv i.gOp) ?_
    refine J.cn 5 [] [] [] 63 (i.gOp = 10) (fun fk12 => ?_) fun fk12 => ?_
    ·skip
     refine J.e 15 [.bool false] Tryz.func86 (hR _ _ ?_)
     exact ⟨congrArg Value.bool (decide_eq_false (show ¬ (kP i.gOp i.gK) by omega)).symm, S3.nil⟩
    refine J.c 3 [] [] [] 66 ((i.gK % 128) = 0) (fun fk13 => ?_) fun fk13 => ?_
    ·skip
     refine J.e 12 [.bool true] Tryz.func86 (hR _ _ ?_)
     exact ⟨congrArg Value.bool (decide_eq_true (show kP i.gOp i.gK by omega)).symm, S3.nil⟩
    refine J.lb 1 [] [] [] S3 0 rfl 68 (iv i.gOp) ?_
    refine J.cn 2 [] [] [] 70 (i.gOp = 13) (fun fk14 => ?_) fun fk14 => ?_
    ·skip
     refine J.e 8 [.bool false] Tryz.func86 (hR _ _ ?_)
     exact ⟨congrArg Value.bool (decide_eq_false (show ¬ (kP i.gOp i.gK) by omega)).symm, S3.nil⟩
    refine J.lb 1 [] [] [] S3 0 rfl 72 (iv i.gOp) ?_
    refine J.e 6 [.bool (i.gOp != 14)] Tryz.func86 (hR _ _ ?_)
    exact ⟨congrArg Value.bool (by show (i.gOp != 14) = decide (kP i.gOp i.gK); by_cases hz_ : i.gOp = 14; (rw [(bne_eq_false_iff_eq.2 hz_)]; first | exact (decide_eq_true (by omega)).symm | exact (decide_eq_false (by omega)).symm); (rw [(bne_iff_ne.2 hz_)]; first | exact (decide_eq_false (by omega)).symm | exact (decide_eq_true (by omega)).symm)), S3.nil⟩
   refine J.e 29 [.bool false] Tryz.func86 (hR _ _ ?_)
   exact ⟨congrArg Value.bool (decide_eq_false (show ¬ (kP i.gOp i.gK) by omega)).symm, S3.nil⟩
  refine J.e 34 [.bool false] Tryz.func86 (hR _ _ ?_)
  exact ⟨congrArg Value.bool (decide_eq_false (show ¬ (kP i.gOp i.gK) by omega)).symm, S3.nil⟩
 have fb2 := of_decide_eq_false fk5
 refine J.lb 4 [false] [] [] S3 0 rfl 79 (iv i.gOp) ?_
 refine J.c 3 [] [] [] 77 (i.gOp = 22) (fun fk15 => ?_) fun fk15 => ?_
 ·skip
  refine J.lb 4 [true] [] [] S3 0 rfl 82 (iv i.gK) ?_
  refine J.c 2 [] [] [] 84 (i.gK ≥ 0) (fun fk16 => ?_) fun fk16 => ?_
  ·skip
   refine J.lb 1 [] [] [] S3 0 rfl 86 (iv i.gK) ?_
   refine J.c 3 [] [] [] 89 (i.gK ≤ 32767) (fun fk17 => ?_) fun fk17 => ?_
   ·skip
    refine J.lb 1 [] [] [] S3 0 rfl 91 (iv i.gK) ?_
    refine J.h 1 [] [] [] 92 (iv (IntKind.wrap .i64 ((BitVec.ofInt 64 i.gK &&& (BitVec.ofInt 64 (31 : Int))).toNat : Int))) (iv (i.gK % 32)) (congrArg (Value.int .i64) (and_mask_i64 5 _ _ (by rfl) (by decide))) ?_
    refine J.e 4 [.bool (decide ((i.gK % 32) ≤ 20))] Tryz.func86 (hR _ _ ?_)
    exact ⟨congrArg Value.bool (by show (decide ((i.gK % 32) ≤ 20)) = decide (kP i.gOp i.gK); by_cases hz_ : (i.gK % 32) ≤ 20; (rw [(decide_eq_true hz_)]; first | exact (decide_eq_true (by omega)).symm | exact (decide_eq_false (by omega)).symm); (rw [(decide_eq_false hz_)]; first | exact (decide_eq_false (by omega)).symm | exact (decide_eq_true (by omega)).symm)), S3.nil⟩
   refine J.e 7 [.bool false] Tryz.func86 (hR _ _ ?_)
   exact ⟨congrArg Value.bool (decide_eq_false (show ¬ (kP i.gOp i.gK) by omega)).symm, S3.nil⟩
  refine J.e 12 [.bool false] Tryz.func86 (hR _ _ ?_)
  exact ⟨congrArg Value.bool (decide_eq_false (show ¬ (kP i.gOp i.gK) by omega)).symm, S3.nil⟩
 refine J.lb 6 [false] [] [] S3 0 rfl 96 (iv i.gK) ?_
 refine J.c 2 [] [] [] 98 (i.gK ≥ 0) (fun fk18 => ?_) fun fk18 => ?_
 ·skip
  refine J.lb 1 [] [] [] S3 0 rfl 100 (iv i.gK) ?_
  refine J.e 4 [.bool (decide (i.gK ≤ 32767))] Tryz.func86 (hR _ _ ?_)
  exact ⟨congrArg Value.bool (by show (decide (i.gK ≤ 32767)) = decide (kP i.gOp i.gK); by_cases hz_ : i.gK ≤ 32767; (rw [(decide_eq_true hz_)]; first | exact (decide_eq_true (by omega)).symm | exact (decide_eq_false (by omega)).symm); (rw [(decide_eq_false hz_)]; first | exact (decide_eq_false (by omega)).symm | exact (decide_eq_true (by omega)).symm)), S3.nil⟩
 refine J.e 6 [.bool false] Tryz.func86 (hR _ _ ?_)
 exact ⟨congrArg Value.bool (decide_eq_false (show ¬ (kP i.gOp i.gK) by omega)).symm, S3.nil⟩

end Go.Proofs.YtaoolgcddapegaaGreatDoor

