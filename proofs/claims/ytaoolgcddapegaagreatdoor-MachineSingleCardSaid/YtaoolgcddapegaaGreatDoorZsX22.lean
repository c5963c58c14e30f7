/- Walks of functions of this seat, printed by a program over the engine. Conditions: as each theorem says. -/
import Derived.Test.YtaoolgcddapegaaGreatDoorZsX19
namespace Go.Proofs.YtaoolgcddapegaaGreatDoor
noncomputable section
open Go.Eng Go.RowKit
set_option linter.unusedSimpArgs false
set_option linter.unusedVariables false
set_option maxRecDepth 20000
set_option maxHeartbeats 20000000
theorem hb92 : HasBody Tryz.prog 92 := fun _ _ => by kernel_rfl

theorem not_any (b : Bool) (w : World) : Ret Tryz.prog 92 #[.bool b] w (fun v w' => v = .bool (!b) ∧ Sep w [] w') := by
 refine Ret.st (N := 5) Tryz.func92 fun R hR S0 => ?_
 refine J.e 10 [.bool (!b)] Tryz.func92 (hR _ _ ?_)
 exact ⟨rfl, S0.nil⟩

theorem hb94 : HasBody Tryz.prog 94 := fun _ _ => by kernel_rfl

theorem val2_any (t : Fxd) (bx : Nat) (w : World) (ht : fxdQ w t) (hb : (box bx [.func (.func 92) #[] #[]] 141).holds w) : Ret Tryz.prog 94 #[.agg (fxdA t), pv bx] w (fun v w' => v = .bool (!fixB t) ∧ Sep w [] w') := by
 refine Ret.st (N := 8) Tryz.func94 fun R hR S0 => ?_
 obtain ⟨q1, q2, q3, q4, q5, q6, q7, q8, q9, _⟩ := id ht
 refine J.nw 2 [] [] [] S0 2 (fxdC t) 75 fun b1 w1 S1 => ?_
 refine J.r 3 [] [] [] ?_
 refine J.drawPlan (fun w_ => Sep w [box b1 (fxdC t) 75] w_) [(0, true), (1, true), (2, false), (3, false), (4, true)] S1 Tryz.mixed (by kernel_rfl) (planOK_of (T := [(0, some 4, 2), (0, some 5, 4), (2, some 6, 32), (5, some 7, 80), (15, some 3, 128)]) (by kernel_rfl) (by kernel_rfl)) ?_
 intro w2 S2
 refine PB.mk S2 ?_
 refine PL.takeOK 0 (fun w_ S_ => OK.ldRo S_ hb 4 141 0 (.func (.func 92) #[] #[]) (by kernel_rfl) (by kernel_rfl)) rfl ?_
 refine PL.takeOK 1 (fun w_ S_ => OK.ldBox S_ 0 5 75 0 (.agg (fxdA t)) (by kernel_rfl) rfl (by kernel_rfl)) rfl ?_
 refine PL.callF 6 95 #[.agg (fxdA t)] hb95 (by kernel_rfl) (fxvalid_any t _ (fxdQ_sep ht S2)) ?_
 rintro _ w3 ⟨rfl, T1⟩
 have S3 : Sep w [box b1 (fxdC t) 75] w3 := S2.trans T1
 clear T1 S2
 refine PB.mk S3 ?_
 refine PL.callF 7 92 #[.bool (fixB t)] hb92 (by kernel_rfl) (not_any (fixB t) _) ?_
 rintro _ w4 ⟨rfl, T2⟩
 have S4 : Sep w [box b1 (fxdC t) 75] w4 := S3.trans T2
 clear T2 S3
 refine PB.mk S4 ?_
 refine PL.take 4 3 (.bool (!(fixB t))) (fun _ _ => by kernel_rfl) ?_
 refine PL.done ?_
 refine J.e 0 [.bool (!(fixB t))] Tryz.func94 (hR _ _ ?_)
 exact ⟨rfl, S4.nil⟩

theorem hb96 : HasBody Tryz.prog 96 := fun _ _ => by kernel_rfl

theorem val3_any (c : Crv) (bx : Nat) (w : World) (hc : crvQ w c) (hb : (box bx [.func (.func 92) #[] #[]] 141).holds w) : Ret Tryz.prog 96 #[.agg (crvA c), pv bx] w (fun v w' => v = .bool (!validV c) ∧ Sep w [] w') := by
 refine Ret.st (N := 8) Tryz.func96 fun R hR S0 => ?_
 obtain ⟨q1, q2, q3, q4, q5, q6, _⟩ := id hc
 have ql1 := q2.len_eq
 have ql2 := q5.len_eq
 refine J.nw 2 [] [] [] S0 2 (crvC c) 66 fun b1 w1 S1 => ?_
 refine J.r 3 [] [] [] ?_
 refine J.drawPlan (fun w_ => Sep w [box b1 (crvC c) 66] w_) [(0, true), (1, true), (2, false), (3, false), (4, true)] S1 Tryz.mixed (by kernel_rfl) (planOK_of (T := [(0, some 4, 2), (0, some 5, 4), (2, some 6, 32), (5, some 7, 80), (15, some 3, 128)]) (by kernel_rfl) (by kernel_rfl)) ?_
 intro w2 S2
 refine PB.mk S2 ?_
 refine PL.takeOK 0 (fun w_ S_ => OK.ldRo S_ hb 4 141 0 (.func (.func 92) #[] #[]) (by kernel_rfl) (by kernel_rfl)) rfl ?_
 refine PL.takeOK 1 (fun w_ S_ => OK.ldBox S_ 0 5 66 0 (.agg (crvA c)) (by kernel_rfl) rfl (by kernel_rfl)) rfl ?_
 refine PL.callF 6 97 #[.agg (crvA c)] hb97 (by kernel_rfl) (cvalid_any c _ (crvQ_sep hc S2)) ?_
 rintro _ w3 ⟨rfl, T1⟩
 have S3 : Sep w [box b1 (crvC c) 66] w3 := S2.trans T1
 clear T1 S2
 refine PB.mk S3 ?_
 refine PL.callF 7 92 #[.bool (validV c)] hb92 (by kernel_rfl) (not_any (validV c) _) ?_
 rintro _ w4 ⟨rfl, T2⟩
 have S4 : Sep w [box b1 (crvC c) 66] w4 := S3.trans T2
 clear T2 S3
 refine PB.mk S4 ?_
 refine PL.take 4 3 (.bool (!(validV c))) (fun _ _ => by kernel_rfl) ?_
 refine PL.done ?_
 refine J.e 0 [.bool (!(validV c))] Tryz.func96 (hR _ _ ?_)
 exact ⟨rfl, S4.nil⟩

theorem hb98 : HasBody Tryz.prog 98 := fun _ _ => by kernel_rfl

theorem val4_any (m : Mp) (bx : Nat) (w : World) (hm : mpQ w m) (hb : (box bx [.func (.func 92) #[] #[]] 141).holds w) : Ret Tryz.prog 98 #[.agg (mpA m), pv bx] w (fun v w' => v = .bool (!validM m) ∧ Sep w [] w') := by
 refine Ret.st (N := 8) Tryz.func98 fun R hR S0 => ?_
 obtain ⟨q1, q2, q3, q4, q5, q6, q7, q8, q9, _⟩ := id hm
 have ql1 := q2.len_eq
 have ql2 := q5.len_eq
 have ql3 := q8.len_eq
 refine J.nw 2 [] [] [] S0 2 (mpC m) 62 fun b1 w1 S1 => ?_
 refine J.r 3 [] [] [] ?_
 refine J.drawPlan (fun w_ => Sep w [box b1 (mpC m) 62] w_) [(0, true), (1, true), (2, false), (3, false), (4, true)] S1 Tryz.mixed (by kernel_rfl) (planOK_of (T := [(0, some 4, 2), (0, some 5, 4), (2, some 6, 32), (5, some 7, 80), (15, some 3, 128)]) (by kernel_rfl) (by kernel_rfl)) ?_
 intro w2 S2
 refine PB.mk S2 ?_
 refine PL.takeOK 0 (fun w_ S_ => OK.ldRo S_ hb 4 141 0 (.func (.func 92) #[] #[]) (by kernel_rfl) (by kernel_rfl)) rfl ?_
 refine PL.takeOK 1 (fun w_ S_ => OK.ldBox S_ 0 5 62 0 (.agg (mpA m)) (by kernel_rfl) rfl (by kernel_rfl)) rfl ?_
 refine PL.callF 6 99 #[.agg (mpA m)] hb99 (by kernel_rfl) (valid_any m _ (mpQ_sep hm S2)) ?_
 rintro _ w3 ⟨rfl, T1⟩
 have S3 : Sep w [box b1 (mpC m) 62] w3 := S2.trans T1
 clear T1 S2
 refine PB.mk S3 ?_
 refine PL.callF 7 92 #[.bool (validM m)] hb92 (by kernel_rfl) (not_any (validM m) _) ?_
 rintro _ w4 ⟨rfl, T2⟩
 have S4 : Sep w [box b1 (mpC m) 62] w4 := S3.trans T2
 clear T2 S3
 refine PB.mk S4 ?_
 refine PL.take 4 3 (.bool (!(validM m))) (fun _ _ => by kernel_rfl) ?_
 refine PL.done ?_
 refine J.e 0 [.bool (!(validM m))] Tryz.func98 (hR _ _ ?_)
 exact ⟨rfl, S4.nil⟩

theorem hb101 : HasBody Tryz.prog 101 := fun _ _ => by kernel_rfl

theorem val5_any (p : Prg) (i : Ins) (bx1 bx2 : Nat) (w : World) (hp : prgQ w p) (hi : insQ w i) (hb1 : (box bx1 [.func (.func 92) #[] #[]] 141).holds w) (hb2 : (box bx2 (prgC p) 28).holds w) : Ret Tryz.prog 101 #[.agg (insA i), pv bx1, pv bx2] w (fun v w' => v = .bool (!fitsI p i) ∧ Sep w [] w') := by
 refine Ret.st (N := 10) Tryz.func101 fun R hR S0 => ?_
 obtain ⟨q1, q2, q3, q4, q5, q6, q7, q8, q9, q10, q11, q12, q13, q14, q15, q16, q17, q18, q19, q20, q21, q22, q23, q24, q25, _⟩ := id hp
 have ql1 := q2.len_eq
 have ql2 := q5.len_eq
 have ql3 := q8.len_eq
 have ql4 := q11.len_eq
 have ql5 := q15.len_eq
 have ql6 := q18.len_eq
 have ql7 := q21.len_eq
 have ql8 := q24.len_eq
 obtain ⟨q26, q27, q28, q29, q30, _⟩ := id hi
 refine J.nw 2 [] [] [] S0 3 (insC i) 48 fun b1 w1 S1 => ?_
 refine J.r 3 [] [] [] ?_
 refine J.drawPlan (fun w_ => Sep w [box b1 (insC i) 48] w_) [(0, true), (1, true), (2, true), (3, false), (4, false), (5, true)] S1 Tryz.mixed (by kernel_rfl) (planOK_of (T := [(0, some 5, 2), (0, some 6, 4), (0, some 7, 8), (6, some 8, 192), (9, some 9, 288), (31, some 4, 512)]) (by kernel_rfl) (by kernel_rfl)) ?_
 intro w2 S2
 refine PB.mk S2 ?_
 refine PL.takeOK 0 (fun w_ S_ => OK.ldRo S_ hb1 5 141 0 (.func (.func 92) #[] #[]) (by kernel_rfl) (by kernel_rfl)) rfl ?_
 refine PL.takeOK 1 (fun w_ S_ => OK.ldRo S_ hb2 6 28 0 (.agg (prgA p)) (by kernel_rfl) (by kernel_rfl)) rfl ?_
 refine PL.takeOK 2 (fun w_ S_ => OK.ldBox S_ 0 7 48 0 (.agg (insA i)) (by kernel_rfl) rfl (by kernel_rfl)) rfl ?_
 refine PL.callF 8 102 #[.agg (prgA p), .agg (insA i)] hb102 (by kernel_rfl) (fits_any p i _ (prgQ_sep hp S2) (insQ_sep hi S2)) ?_
 rintro _ w3 ⟨rfl, T1⟩
 have S3 : Sep w [box b1 (insC i) 48] w3 := S2.trans T1
 clear T1 S2
 refine PB.mk S3 ?_
 refine PL.callF 9 92 #[.bool (fitsI p i)] hb92 (by kernel_rfl) (not_any (fitsI p i) _) ?_
 rintro _ w4 ⟨rfl, T2⟩
 have S4 : Sep w [box b1 (insC i) 48] w4 := S3.trans T2
 clear T2 S3
 refine PB.mk S4 ?_
 refine PL.take 5 4 (.bool (!(fitsI p i))) (fun _ _ => by kernel_rfl) ?_
 refine PL.done ?_
 refine J.e 0 [.bool (!(fitsI p i))] Tryz.func101 (hR _ _ ?_)
 exact ⟨rfl, S4.nil⟩

theorem hb104 : HasBody Tryz.prog 104 := fun _ _ => by kernel_rfl

theorem val6_any (p : Prg) (c : Int) (bx1 : Nat) (w : World) (hb1 : (box bx1 (prgC p) 28).holds w) : Ret Tryz.prog 104 #[iv c, pv bx1] w (fun v w' => v = .bool (!(decide (0 ≤ c) && decide (c < p.gCells))) ∧ Sep w [] w') := by
 refine Ret.st (N := 12) Tryz.func104 fun R hR S0 => ?_
 refine J.c 9 [] [] [] 6 (c < 0) (fun fk1 => ?_) fun fk1 => ?_
 ·skip
  refine J.e 7 [.bool true] Tryz.func104 (hR _ _ ?_)
  exact ⟨congrArg Value.bool (by show _ = !(decide (0 ≤ c) && decide (c < p.gCells)); by_cases q1_ : 0 ≤ c <;> by_cases q2_ : c < p.gCells <;> simp [q1_, q2_] <;> omega), S0.nil⟩
 refine J.r 2 [] [(8, .pointer (some ⟨bx1, 4, none⟩)), (7, iv c)] [] ?_
 refine J.ok (OK.ldRo S0 hb1 9 3 4 (iv p.gCells) (by kernel_rfl) (by kernel_rfl)) ?_
 refine J.e 4 [.bool (decide (c ≥ p.gCells))] Tryz.func104 (hR _ _ ?_)
 exact ⟨congrArg Value.bool (by show _ = !(decide (0 ≤ c) && decide (c < p.gCells)); by_cases q1_ : 0 ≤ c <;> by_cases q2_ : c < p.gCells <;> simp [q1_, q2_] <;> omega), S0.nil⟩

theorem hb106 : HasBody Tryz.prog 106 := fun _ _ => by kernel_rfl

theorem val7_any (n : Int) (w : World) : Ret Tryz.prog 106 #[iv n] w (fun v w' => v = .bool (!initB n) ∧ Sep w [] w') := by
 refine Ret.st (N := 9) Tryz.func106 fun R hR S0 => ?_
 refine J.c 9 [] [] [] 5 (n < (-1099511627776)) (fun fk1 => ?_) fun fk1 => ?_
 ·skip
  refine J.e 5 [.bool true] Tryz.func106 (hR _ _ ?_)
  exact ⟨congrArg Value.bool (by show _ = !(decide (-1099511627776 ≤ n) && decide (n ≤ 1099511627776)); by_cases q1_ : -1099511627776 ≤ n <;> by_cases q2_ : n ≤ 1099511627776 <;> simp [q1_, q2_] <;> omega), S0.nil⟩
 refine J.e 5 [.bool (decide (n > 1099511627776))] Tryz.func106 (hR _ _ ?_)
 exact ⟨congrArg Value.bool (by show _ = !(decide (-1099511627776 ≤ n) && decide (n ≤ 1099511627776)); by_cases q1_ : -1099511627776 ≤ n <;> by_cases q2_ : n ≤ 1099511627776 <;> simp [q1_, q2_] <;> omega), S0.nil⟩

theorem hb143 : HasBody Tryz.prog 143 := fun _ _ => by kernel_rfl
def K143_0 := adv 13 [] (bodyOf Tryz.f143)
theorem indexFX1 (la : Option Addr) (len cap : Nat) (l : List Fxd) (g : FuncId) (c1 : Value) (q : Fxd → Bool) (w : World) (hI : Recs fxdE 10 w la len l) (hlen : len ≤ 9223372036854775807) (hbg : HasBody Tryz.prog g) (hcall : ∀ (i : Nat) (w2 : World), i < l.length → Sep w [] w2 → Ret Tryz.prog g #[.agg (fxdA (l.getD i fx0)), c1] w2 (fun v w3 => v = .bool (q (l.getD i fx0)) ∧ Sep w2 [] w3)) : Ret Tryz.prog 143 #[.slice la len cap, .func (.func g) #[] #[c1]] w (fun v w' => v = iv (indexF q l) ∧ Sep w [] w') := by
 refine Ret.st (N := 19) Tryz.func143 fun R hR S0 => ?_
 have L143_1 : ∀ (mm_ : Nat) (i : Int) (w1 : World), (0 ≤ i) → (i ≤ (len : Int)) → (∀ j, j < (i).toNat → q (l.getD j fx0) = false) → Sep w [] w1 → ((len : Int) - i).toNat = mm_ → J Tryz.prog 143 19 R K143_0 [(8, iv i), (7, iv (len : Int)), (0, .slice la len cap), (1, .func (.func g) #[] #[c1])] w1 := by
  intro mm1
  induction mm1 using Nat.strongRecOn with
  | _ mm1 ih1 =>
  intro i w1 h0 h1 hq S1 hm1
  refine J.c 5 [] [] [] 9 (i < (len : Int)) (fun fk1 => ?_) fun fk1 => ?_
  ·skip
   refine J.r 14 [true] [(13, iv i), (12, .slice la len cap), (11, .func (.func g) #[] #[c1]), (5, iv i)] [] ?_
   obtain ⟨p1, hp1, hc1⟩ := hI.at fx0 (i).toNat (by omega)
   refine J.ok (OK.index 14 23 10 la p1 len (i).toNat i (p1.add ((i).toNat * 10)) (by kernel_rfl) (by kernel_rfl) hp1 (by omega) (by omega) rfl) ?_
   refine J.ok (OK.ldCells 15 75 (p1.add ((i).toNat * 10)) (fxdC (l.getD (i).toNat fx0)) (by kernel_rfl) (by kernel_rfl) (by kernel_rfl) (fun j_ v_ hj_ => S1.cell (hc1 j_ v_ hj_))) ?_
   refine J.callF 16 g #[.agg (fxdA (l.getD (i).toNat fx0)), c1] hbg (by kernel_rfl) (hcall (i).toNat w1 (by have := hI.len_eq; omega) S1.nil) ?_
   rintro _ w2 ⟨rfl, T1⟩
   have S2 : Sep w [] w2 := S1.trans T1
   refine J.b 1 [] [] [] 16 (q (l.getD (i).toNat fx0)) (fun fk2 => ?_) fun fk2 => ?_
   ·skip
    refine J.e 6 [iv i] Tryz.func143 (hR _ _ ?_)
    exact ⟨by rw [tup_one, indexF_some fx0 i.toNat (by have := hI.len_eq; omega) hq fk2, Int.toNat_of_nonneg h0], S2.nil⟩
   refine J.wi 5 [false] [] [] 18 (i + 1) ?_
   exact J.t 3 (ih1 _ (show ((len : Int) - (i + 1)).toNat < mm1 from by omega) (i + 1) w2 (by omega) (by omega) (by intro j hj; by_cases e : j = i.toNat; (subst e; exact fk2); exact hq j (by omega)) S2 rfl)
  refine J.e 6 [iv (-1)] Tryz.func143 (hR _ _ ?_)
  exact ⟨by rw [tup_one, indexF_none fx0 fun j hj => hq j (by have := hI.len_eq; omega)], S1.nil⟩
 exact J.t 13 (L143_1 _ 0 w (by omega) (by omega) (by intro j hj; simp at hj) S0 rfl)

theorem hb93 : HasBody Tryz.prog 93 := fun _ _ => by kernel_rfl

theorem containsFX1 (la : Option Addr) (len cap : Nat) (l : List Fxd) (g : FuncId) (c1 : Value) (q : Fxd → Bool) (w : World) (hI : Recs fxdE 10 w la len l) (hlen : len ≤ 9223372036854775807) (hbg : HasBody Tryz.prog g) (hcall : ∀ (i : Nat) (w2 : World), i < l.length → Sep w [] w2 → Ret Tryz.prog g #[.agg (fxdA (l.getD i fx0)), c1] w2 (fun v w3 => v = .bool (q (l.getD i fx0)) ∧ Sep w2 [] w3)) : Ret Tryz.prog 93 #[.slice la len cap, .func (.func g) #[] #[c1]] w (fun v w' => v = .bool (l.any q) ∧ Sep w [] w') := by
 refine Ret.st (N := 9) Tryz.func93 fun R hR S0 => ?_
 refine J.r 8 [] [(6, .func (.func g) #[] #[c1]), (5, .slice la len cap)] [] ?_
 refine J.callF 7 143 #[.slice la len cap, .func (.func g) #[] #[c1]] hb143 (by kernel_rfl) (indexFX1 la len cap l g c1 q _ (hI.sep S0) (by first | omega | (simp; omega)) hbg (hcall)) ?_
 rintro _ w1 ⟨rfl, T1⟩
 have S1 : Sep w [] w1 := S0.trans T1
 refine J.e 3 [.bool (decide ((indexF q l) ≥ 0))] Tryz.func93 (hR _ _ ?_)
 exact ⟨congrArg Value.bool (by first | exact indexF_nonneg), S1.nil⟩

theorem hb59 : HasBody Tryz.prog 59 := fun _ _ => by kernel_rfl
def K59_0 := adv 13 [] (bodyOf Tryz.f59)
theorem indexCV1 (la : Option Addr) (len cap : Nat) (l : List Crv) (g : FuncId) (c1 : Value) (q : Crv → Bool) (w : World) (hI : Recs crvE 2 w la len l) (hlen : len ≤ 9223372036854775807) (hbg : HasBody Tryz.prog g) (hcall : ∀ (i : Nat) (w2 : World), i < l.length → Sep w [] w2 → Ret Tryz.prog g #[.agg (crvA (l.getD i (⟨none, 0, 0, [], none, 0, 0, []⟩ : Crv))), c1] w2 (fun v w3 => v = .bool (q (l.getD i (⟨none, 0, 0, [], none, 0, 0, []⟩ : Crv))) ∧ Sep w2 [] w3)) : Ret Tryz.prog 59 #[.slice la len cap, .func (.func g) #[] #[c1]] w (fun v w' => v = iv (indexF q l) ∧ Sep w [] w') := by
 refine Ret.st (N := 19) Tryz.func59 fun R hR S0 => ?_
 have L59_1 : ∀ (mm_ : Nat) (i : Int) (w1 : World), (0 ≤ i) → (i ≤ (len : Int)) → (∀ j, j < (i).toNat → q (l.getD j (⟨none, 0, 0, [], none, 0, 0, []⟩ : Crv)) = false) → Sep w [] w1 → ((len : Int) - i).toNat = mm_ → J Tryz.prog 59 19 R K59_0 [(8, iv i), (7, iv (len : Int)), (0, .slice la len cap), (1, .func (.func g) #[] #[c1])] w1 := by
  intro mm1
  induction mm1 using Nat.strongRecOn with
  | _ mm1 ih1 =>
  intro i w1 h0 h1 hq S1 hm1
  refine J.c 5 [] [] [] 9 (i < (len : Int)) (fun fk1 => ?_) fun fk1 => ?_
  ·skip
   refine J.r 14 [true] [(13, iv i), (12, .slice la len cap), (11, .func (.func g) #[] #[c1]), (5, iv i)] [] ?_
   obtain ⟨p1, hp1, hc1⟩ := hI.at (⟨none, 0, 0, [], none, 0, 0, []⟩ : Crv) (i).toNat (by omega)
   refine J.ok (OK.index 14 24 2 la p1 len (i).toNat i (p1.add ((i).toNat * 2)) (by kernel_rfl) (by kernel_rfl) hp1 (by omega) (by omega) rfl) ?_
   refine J.ok (OK.ldCells 15 66 (p1.add ((i).toNat * 2)) (crvC (l.getD (i).toNat (⟨none, 0, 0, [], none, 0, 0, []⟩ : Crv))) (by kernel_rfl) (by kernel_rfl) (by kernel_rfl) (fun j_ v_ hj_ => S1.cell (hc1 j_ v_ hj_))) ?_
   refine J.callF 16 g #[.agg (crvA (l.getD (i).toNat (⟨none, 0, 0, [], none, 0, 0, []⟩ : Crv))), c1] hbg (by kernel_rfl) (hcall (i).toNat w1 (by have := hI.len_eq; omega) S1.nil) ?_
   rintro _ w2 ⟨rfl, T1⟩
   have S2 : Sep w [] w2 := S1.trans T1
   refine J.b 1 [] [] [] 16 (q (l.getD (i).toNat (⟨none, 0, 0, [], none, 0, 0, []⟩ : Crv))) (fun fk2 => ?_) fun fk2 => ?_
   ·skip
    refine J.e 6 [iv i] Tryz.func59 (hR _ _ ?_)
    exact ⟨by rw [tup_one, indexF_some (⟨none, 0, 0, [], none, 0, 0, []⟩ : Crv) i.toNat (by have := hI.len_eq; omega) hq fk2, Int.toNat_of_nonneg h0], S2.nil⟩
   refine J.wi 5 [false] [] [] 18 (i + 1) ?_
   exact J.t 3 (ih1 _ (show ((len : Int) - (i + 1)).toNat < mm1 from by omega) (i + 1) w2 (by omega) (by omega) (by intro j hj; by_cases e : j = i.toNat; (subst e; exact fk2); exact hq j (by omega)) S2 rfl)
  refine J.e 6 [iv (-1)] Tryz.func59 (hR _ _ ?_)
  exact ⟨by rw [tup_one, indexF_none (⟨none, 0, 0, [], none, 0, 0, []⟩ : Crv) fun j hj => hq j (by have := hI.len_eq; omega)], S1.nil⟩
 exact J.t 13 (L59_1 _ 0 w (by omega) (by omega) (by intro j hj; simp at hj) S0 rfl)

theorem hb24 : HasBody Tryz.prog 24 := fun _ _ => by kernel_rfl

theorem containsCV1 (la : Option Addr) (len cap : Nat) (l : List Crv) (g : FuncId) (c1 : Value) (q : Crv → Bool) (w : World) (hI : Recs crvE 2 w la len l) (hlen : len ≤ 9223372036854775807) (hbg : HasBody Tryz.prog g) (hcall : ∀ (i : Nat) (w2 : World), i < l.length → Sep w [] w2 → Ret Tryz.prog g #[.agg (crvA (l.getD i (⟨none, 0, 0, [], none, 0, 0, []⟩ : Crv))), c1] w2 (fun v w3 => v = .bool (q (l.getD i (⟨none, 0, 0, [], none, 0, 0, []⟩ : Crv))) ∧ Sep w2 [] w3)) : Ret Tryz.prog 24 #[.slice la len cap, .func (.func g) #[] #[c1]] w (fun v w' => v = .bool (l.any q) ∧ Sep w [] w') := by
 refine Ret.st (N := 9) Tryz.func24 fun R hR S0 => ?_
 refine J.r 8 [] [(6, .func (.func g) #[] #[c1]), (5, .slice la len cap)] [] ?_
 refine J.callF 7 59 #[.slice la len cap, .func (.func g) #[] #[c1]] hb59 (by kernel_rfl) (indexCV1 la len cap l g c1 q _ (hI.sep S0) (by first | omega | (simp; omega)) hbg (hcall)) ?_
 rintro _ w1 ⟨rfl, T1⟩
 have S1 : Sep w [] w1 := S0.trans T1
 refine J.e 3 [.bool (decide ((indexF q l) ≥ 0))] Tryz.func24 (hR _ _ ?_)
 exact ⟨congrArg Value.bool (by first | exact indexF_nonneg), S1.nil⟩

theorem hb58 : HasBody Tryz.prog 58 := fun _ _ => by kernel_rfl
def K58_0 := adv 13 [] (bodyOf Tryz.f58)
theorem indexMP1 (la : Option Addr) (len cap : Nat) (l : List Mp) (g : FuncId) (c1 : Value) (q : Mp → Bool) (w : World) (hI : Recs mpE 3 w la len l) (hlen : len ≤ 9223372036854775807) (hbg : HasBody Tryz.prog g) (hcall : ∀ (i : Nat) (w2 : World), i < l.length → Sep w [] w2 → Ret Tryz.prog g #[.agg (mpA (l.getD i (⟨none, 0, 0, [], none, 0, 0, [], none, 0, 0, []⟩ : Mp))), c1] w2 (fun v w3 => v = .bool (q (l.getD i (⟨none, 0, 0, [], none, 0, 0, [], none, 0, 0, []⟩ : Mp))) ∧ Sep w2 [] w3)) : Ret Tryz.prog 58 #[.slice la len cap, .func (.func g) #[] #[c1]] w (fun v w' => v = iv (indexF q l) ∧ Sep w [] w') := by
 refine Ret.st (N := 19) Tryz.func58 fun R hR S0 => ?_
 have L58_1 : ∀ (mm_ : Nat) (i : Int) (w1 : World), (0 ≤ i) → (i ≤ (len : Int)) → (∀ j, j < (i).toNat → q (l.getD j (⟨none, 0, 0, [], none, 0, 0, [], none, 0, 0, []⟩ : Mp)) = false) → Sep w [] w1 → ((len : Int) - i).toNat = mm_ → J Tryz.prog 58 19 R K58_0 [(8, iv i), (7, iv (len : Int)), (0, .slice la len cap), (1, .func (.func g) #[] #[c1])] w1 := by
  intro mm1
  induction mm1 using Nat.strongRecOn with
  | _ mm1 ih1 =>
  intro i w1 h0 h1 hq S1 hm1
  refine J.c 5 [] [] [] 9 (i < (len : Int)) (fun fk1 => ?_) fun fk1 => ?_
  ·skip
   refine J.r 14 [true] [(13, iv i), (12, .slice la len cap), (11, .func (.func g) #[] #[c1]), (5, iv i)] [] ?_
   obtain ⟨p1, hp1, hc1⟩ := hI.at (⟨none, 0, 0, [], none, 0, 0, [], none, 0, 0, []⟩ : Mp) (i).toNat (by omega)
   refine J.ok (OK.index 14 25 3 la p1 len (i).toNat i (p1.add ((i).toNat * 3)) (by kernel_rfl) (by kernel_rfl) hp1 (by omega) (by omega) rfl) ?_
   refine J.ok (OK.ldCells 15 62 (p1.add ((i).toNat * 3)) (mpC (l.getD (i).toNat (⟨none, 0, 0, [], none, 0, 0, [], none, 0, 0, []⟩ : Mp))) (by kernel_rfl) (by kernel_rfl) (by kernel_rfl) (fun j_ v_ hj_ => S1.cell (hc1 j_ v_ hj_))) ?_
   refine J.callF 16 g #[.agg (mpA (l.getD (i).toNat (⟨none, 0, 0, [], none, 0, 0, [], none, 0, 0, []⟩ : Mp))), c1] hbg (by kernel_rfl) (hcall (i).toNat w1 (by have := hI.len_eq; omega) S1.nil) ?_
   rintro _ w2 ⟨rfl, T1⟩
   have S2 : Sep w [] w2 := S1.trans T1
   refine J.b 1 [] [] [] 16 (q (l.getD (i).toNat (⟨none, 0, 0, [], none, 0, 0, [], none, 0, 0, []⟩ : Mp))) (fun fk2 => ?_) fun fk2 => ?_
   ·skip
    refine J.e 6 [iv i] Tryz.func58 (hR _ _ ?_)
    exact ⟨by rw [tup_one, indexF_some (⟨none, 0, 0, [], none, 0, 0, [], none, 0, 0, []⟩ : Mp) i.toNat (by have := hI.len_eq; omega) hq fk2, Int.toNat_of_nonneg h0], S2.nil⟩
   refine J.wi 5 [false] [] [] 18 (i + 1) ?_
   exact J.t 3 (ih1 _ (show ((len : Int) - (i + 1)).toNat < mm1 from by omega) (i + 1) w2 (by omega) (by omega) (by intro j hj; by_cases e : j = i.toNat; (subst e; exact fk2); exact hq j (by omega)) S2 rfl)
  refine J.e 6 [iv (-1)] Tryz.func58 (hR _ _ ?_)
  exact ⟨by rw [tup_one, indexF_none (⟨none, 0, 0, [], none, 0, 0, [], none, 0, 0, []⟩ : Mp) fun j hj => hq j (by have := hI.len_eq; omega)], S1.nil⟩
 exact J.t 13 (L58_1 _ 0 w (by omega) (by omega) (by intro j hj; simp at hj) S0 rfl)

theorem hb22 : HasBody Tryz.prog 22 := fun _ _ => by kernel_rfl

theorem containsMP1 (la : Option Addr) (len cap : Nat) (l : List Mp) (g : FuncId) (c1 : Value) (q : Mp → Bool) (w : World) (hI : Recs mpE 3 w la len l) (hlen : len ≤ 9223372036854775807) (hbg : HasBody Tryz.prog g) (hcall : ∀ (i : Nat) (w2 : World), i < l.length → Sep w [] w2 → Ret Tryz.prog g #[.agg (mpA (l.getD i (⟨none, 0, 0, [], none, 0, 0, [], none, 0, 0, []⟩ : Mp))), c1] w2 (fun v w3 => v = .bool (q (l.getD i (⟨none, 0, 0, [], none, 0, 0, [], none, 0, 0, []⟩ : Mp))) ∧ Sep w2 [] w3)) : Ret Tryz.prog 22 #[.slice la len cap, .func (.func g) #[] #[c1]] w (fun v w' => v = .bool (l.any q) ∧ Sep w [] w') := by
 refine Ret.st (N := 9) Tryz.func22 fun R hR S0 => ?_
 refine J.r 8 [] [(6, .func (.func g) #[] #[c1]), (5, .slice la len cap)] [] ?_
 refine J.callF 7 58 #[.slice la len cap, .func (.func g) #[] #[c1]] hb58 (by kernel_rfl) (indexMP1 la len cap l g c1 q _ (hI.sep S0) (by first | omega | (simp; omega)) hbg (hcall)) ?_
 rintro _ w1 ⟨rfl, T1⟩
 have S1 : Sep w [] w1 := S0.trans T1
 refine J.e 3 [.bool (decide ((indexF q l) ≥ 0))] Tryz.func22 (hR _ _ ?_)
 exact ⟨congrArg Value.bool (by first | exact indexF_nonneg), S1.nil⟩

theorem hb150 : HasBody Tryz.prog 150 := fun _ _ => by kernel_rfl
def K150_0 := adv 13 [] (bodyOf Tryz.f150)
theorem indexIN2 (la : Option Addr) (len cap : Nat) (l : List Ins) (g : FuncId) (c1 : Value) (c2 : Value) (q : Ins → Bool) (w : World) (hI : Recs insE 5 w la len l) (hlen : len ≤ 9223372036854775807) (hbg : HasBody Tryz.prog g) (hcall : ∀ (i : Nat) (w2 : World), i < l.length → Sep w [] w2 → Ret Tryz.prog g #[.agg (insA (l.getD i ins0)), c1, c2] w2 (fun v w3 => v = .bool (q (l.getD i ins0)) ∧ Sep w2 [] w3)) : Ret Tryz.prog 150 #[.slice la len cap, .func (.func g) #[] #[c1, c2]] w (fun v w' => v = iv (indexF q l) ∧ Sep w [] w') := by
 refine Ret.st (N := 19) Tryz.func150 fun R hR S0 => ?_
 have L150_1 : ∀ (mm_ : Nat) (i : Int) (w1 : World), (0 ≤ i) → (i ≤ (len : Int)) → (∀ j, j < (i).toNat → q (l.getD j ins0) = false) → Sep w [] w1 → ((len : Int) - i).toNat = mm_ → J Tryz.prog 150 19 R K150_0 [(8, iv i), (7, iv (len : Int)), (0, .slice la len cap), (1, .func (.func g) #[] #[c1, c2])] w1 := by
  intro mm1
  induction mm1 using Nat.strongRecOn with
  | _ mm1 ih1 =>
  intro i w1 h0 h1 hq S1 hm1
  refine J.c 5 [] [] [] 9 (i < (len : Int)) (fun fk1 => ?_) fun fk1 => ?_
  ·skip
   refine J.r 14 [true] [(13, iv i), (12, .slice la len cap), (11, .func (.func g) #[] #[c1, c2]), (5, iv i)] [] ?_
   obtain ⟨p1, hp1, hc1⟩ := hI.at ins0 (i).toNat (by omega)
   refine J.ok (OK.index 14 22 5 la p1 len (i).toNat i (p1.add ((i).toNat * 5)) (by kernel_rfl) (by kernel_rfl) hp1 (by omega) (by omega) rfl) ?_
   refine J.ok (OK.ldCells 15 48 (p1.add ((i).toNat * 5)) (insC (l.getD (i).toNat ins0)) (by kernel_rfl) (by kernel_rfl) (by kernel_rfl) (fun j_ v_ hj_ => S1.cell (hc1 j_ v_ hj_))) ?_
   refine J.callF 16 g #[.agg (insA (l.getD (i).toNat ins0)), c1, c2] hbg (by kernel_rfl) (hcall (i).toNat w1 (by have := hI.len_eq; omega) S1.nil) ?_
   rintro _ w2 ⟨rfl, T1⟩
   have S2 : Sep w [] w2 := S1.trans T1
   refine J.b 1 [] [] [] 16 (q (l.getD (i).toNat ins0)) (fun fk2 => ?_) fun fk2 => ?_
   ·skip
    refine J.e 6 [iv i] Tryz.func150 (hR _ _ ?_)
    exact ⟨by rw [tup_one, indexF_some ins0 i.toNat (by have := hI.len_eq; omega) hq fk2, Int.toNat_of_nonneg h0], S2.nil⟩
   refine J.wi 5 [false] [] [] 18 (i + 1) ?_
   exact J.t 3 (ih1 _ (show ((len : Int) - (i + 1)).toNat < mm1 from by omega) (i + 1) w2 (by omega) (by omega) (by intro j hj; by_cases e : j = i.toNat; (subst e; exact fk2); exact hq j (by omega)) S2 rfl)
  refine J.e 6 [iv (-1)] Tryz.func150 (hR _ _ ?_)
  exact ⟨by rw [tup_one, indexF_none ins0 fun j hj => hq j (by have := hI.len_eq; omega)], S1.nil⟩
 exact J.t 13 (L150_1 _ 0 w (by omega) (by omega) (by intro j hj; simp at hj) S0 rfl)

theorem hb100 : HasBody Tryz.prog 100 := fun _ _ => by kernel_rfl

theorem containsIN2 (la : Option Addr) (len cap : Nat) (l : List Ins) (g : FuncId) (c1 : Value) (c2 : Value) (q : Ins → Bool) (w : World) (hI : Recs insE 5 w la len l) (hlen : len ≤ 9223372036854775807) (hbg : HasBody Tryz.prog g) (hcall : ∀ (i : Nat) (w2 : World), i < l.length → Sep w [] w2 → Ret Tryz.prog g #[.agg (insA (l.getD i ins0)), c1, c2] w2 (fun v w3 => v = .bool (q (l.getD i ins0)) ∧ Sep w2 [] w3)) : Ret Tryz.prog 100 #[.slice la len cap, .func (.func g) #[] #[c1, c2]] w (fun v w' => v = .bool (l.any q) ∧ Sep w [] w') := by
 refine Ret.st (N := 9) Tryz.func100 fun R hR S0 => ?_
 refine J.r 8 [] [(6, .func (.func g) #[] #[c1, c2]), (5, .slice la len cap)] [] ?_
 refine J.callF 7 150 #[.slice la len cap, .func (.func g) #[] #[c1, c2]] hb150 (by kernel_rfl) (indexIN2 la len cap l g c1 c2 q _ (hI.sep S0) (by first | omega | (simp; omega)) hbg (hcall)) ?_
 rintro _ w1 ⟨rfl, T1⟩
 have S1 : Sep w [] w1 := S0.trans T1
 refine J.e 3 [.bool (decide ((indexF q l) ≥ 0))] Tryz.func100 (hR _ _ ?_)
 exact ⟨congrArg Value.bool (by first | exact indexF_nonneg), S1.nil⟩

def K59a_0 := adv 13 [] (bodyOf Tryz.f59)
theorem indexCV0 (la : Option Addr) (len cap : Nat) (l : List Crv) (g : FuncId) (q : Crv → Bool) (w : World) (hI : Recs crvE 2 w la len l) (hlen : len ≤ 9223372036854775807) (hbg : HasBody Tryz.prog g) (hcall : ∀ (i : Nat) (w2 : World), i < l.length → Sep w [] w2 → Ret Tryz.prog g #[.agg (crvA (l.getD i (⟨none, 0, 0, [], none, 0, 0, []⟩ : Crv)))] w2 (fun v w3 => v = .bool (q (l.getD i (⟨none, 0, 0, [], none, 0, 0, []⟩ : Crv))) ∧ Sep w2 [] w3)) : Ret Tryz.prog 59 #[.slice la len cap, .func (.func g) #[] #[]] w (fun v w' => v = iv (indexF q l) ∧ Sep w [] w') := by
 refine Ret.st (N := 19) Tryz.func59 fun R hR S0 => ?_
 have L59_1 : ∀ (mm_ : Nat) (i : Int) (w1 : World), (0 ≤ i) → (i ≤ (len : Int)) → (∀ j, j < (i).toNat → q (l.getD j (⟨none, 0, 0, [], none, 0, 0, []⟩ : Crv)) = false) → Sep w [] w1 → ((len : Int) - i).toNat = mm_ → J Tryz.prog 59 19 R K59a_0 [(8, iv i), (7, iv (len : Int)), (0, .slice la len cap), (1, .func (.func g) #[] #[])] w1 := by
  intro mm1
  induction mm1 using Nat.strongRecOn with
  | _ mm1 ih1 =>
  intro i w1 h0 h1 hq S1 hm1
  refine J.c 5 [] [] [] 9 (i < (len : Int)) (fun fk1 => ?_) fun fk1 => ?_
  ·skip
   refine J.r 14 [true] [(13, iv i), (12, .slice la len cap), (11, .func (.func g) #[] #[]), (5, iv i)] [] ?_
   obtain ⟨p1, hp1, hc1⟩ := hI.at (⟨none, 0, 0, [], none, 0, 0, []⟩ : Crv) (i).toNat (by omega)
   refine J.ok (OK.index 14 24 2 la p1 len (i).toNat i (p1.add ((i).toNat * 2)) (by kernel_rfl) (by kernel_rfl) hp1 (by omega) (by omega) rfl) ?_
   refine J.ok (OK.ldCells 15 66 (p1.add ((i).toNat * 2)) (crvC (l.getD (i).toNat (⟨none, 0, 0, [], none, 0, 0, []⟩ : Crv))) (by kernel_rfl) (by kernel_rfl) (by kernel_rfl) (fun j_ v_ hj_ => S1.cell (hc1 j_ v_ hj_))) ?_
   refine J.callF 16 g #[.agg (crvA (l.getD (i).toNat (⟨none, 0, 0, [], none, 0, 0, []⟩ : Crv)))] hbg (by kernel_rfl) (hcall (i).toNat w1 (by have := hI.len_eq; omega) S1.nil) ?_
   rintro _ w2 ⟨rfl, T1⟩
   have S2 : Sep w [] w2 := S1.trans T1
   refine J.b 1 [] [] [] 16 (q (l.getD (i).toNat (⟨none, 0, 0, [], none, 0, 0, []⟩ : Crv))) (fun fk2 => ?_) fun fk2 => ?_
   ·skip
    refine J.e 6 [iv i] Tryz.func59 (hR _ _ ?_)
    exact ⟨by rw [tup_one, indexF_some (⟨none, 0, 0, [], none, 0, 0, []⟩ : Crv) i.toNat (by have := hI.len_eq; omega) hq fk2, Int.toNat_of_nonneg h0], S2.nil⟩
   refine J.wi 5 [false] [] [] 18 (i + 1) ?_
   exact J.t 3 (ih1 _ (show ((len : Int) - (i + 1)).toNat < mm1 from by omega) (i + 1) w2 (by omega) (by omega) (by intro j hj; by_cases e : j = i.toNat; (subst e; exact fk2); exact hq j (by omega)) S2 rfl)
  refine J.e 6 [iv (-1)] Tryz.func59 (hR _ _ ?_)
  exact ⟨by rw [tup_one, indexF_none (⟨none, 0, 0, [], none, 0, 0, []⟩ : Crv) fun j hj => hq j (by have := hI.len_eq; omega)], S1.nil⟩
 exact J.t 13 (L59_1 _ 0 w (by omega) (by omega) (by intro j hj; simp at hj) S0 rfl)

theorem containsCV0 (la : Option Addr) (len cap : Nat) (l : List Crv) (g : FuncId) (q : Crv → Bool) (w : World) (hI : Recs crvE 2 w la len l) (hlen : len ≤ 9223372036854775807) (hbg : HasBody Tryz.prog g) (hcall : ∀ (i : Nat) (w2 : World), i < l.length → Sep w [] w2 → Ret Tryz.prog g #[.agg (crvA (l.getD i (⟨none, 0, 0, [], none, 0, 0, []⟩ : Crv)))] w2 (fun v w3 => v = .bool (q (l.getD i (⟨none, 0, 0, [], none, 0, 0, []⟩ : Crv))) ∧ Sep w2 [] w3)) : Ret Tryz.prog 24 #[.slice la len cap, .func (.func g) #[] #[]] w (fun v w' => v = .bool (l.any q) ∧ Sep w [] w') := by
 refine Ret.st (N := 9) Tryz.func24 fun R hR S0 => ?_
 refine J.r 8 [] [(6, .func (.func g) #[] #[]), (5, .slice la len cap)] [] ?_
 refine J.callF 7 59 #[.slice la len cap, .func (.func g) #[] #[]] hb59 (by kernel_rfl) (indexCV0 la len cap l g  q _ (hI.sep S0) (by first | omega | (simp; omega)) hbg (hcall)) ?_
 rintro _ w1 ⟨rfl, T1⟩
 have S1 : Sep w [] w1 := S0.trans T1
 refine J.e 3 [.bool (decide ((indexF q l) ≥ 0))] Tryz.func24 (hR _ _ ?_)
 exact ⟨congrArg Value.bool (by first | exact indexF_nonneg), S1.nil⟩

def K58a_0 := adv 13 [] (bodyOf Tryz.f58)
theorem indexMP0 (la : Option Addr) (len cap : Nat) (l : List Mp) (g : FuncId) (q : Mp → Bool) (w : World) (hI : Recs mpE 3 w la len l) (hlen : len ≤ 9223372036854775807) (hbg : HasBody Tryz.prog g) (hcall : ∀ (i : Nat) (w2 : World), i < l.length → Sep w [] w2 → Ret Tryz.prog g #[.agg (mpA (l.getD i (⟨none, 0, 0, [], none, 0, 0, [], none, 0, 0, []⟩ : Mp)))] w2 (fun v w3 => v = .bool (q (l.getD i (⟨none, 0, 0, [], none, 0, 0, [], none, 0, 0, []⟩ : Mp))) ∧ Sep w2 [] w3)) : Ret Tryz.prog 58 #[.slice la len cap, .func (.func g) #[] #[]] w (fun v w' => v = iv (indexF q l) ∧ Sep w [] w') := by
 refine Ret.st (N := 19) Tryz.func58 fun R hR S0 => ?_
 have L58_1 : ∀ (mm_ : Nat) (i : Int) (w1 : World), (0 ≤ i) → (i ≤ (len : Int)) → (∀ j, j < (i).toNat → q (l.getD j (⟨none, 0, 0, [], none, 0, 0, [], none, 0, 0, []⟩ : Mp)) = false) → Sep w [] w1 → ((len : Int) - i).toNat = mm_ → J Tryz.prog 58 19 R K58a_0 [(8, iv i), (7, iv (len : Int)), (0, .slice la len cap), (1, .func (.func g) #[] #[])] w1 := by
  intro mm1
  induction mm1 using Nat.strongRecOn with
  | _ mm1 ih1 =>
  intro i w1 h0 h1 hq S1 hm1
  refine J.c 5 [] [] [] 9 (i < (len : Int)) (fun fk1 => ?_) fun fk1 => ?_
  ·skip
   refine J.r 14 [true] [(13, iv i), (12, .slice la len cap), (11, .func (.func g) #[] #[]), (5, iv i)] [] ?_
   obtain ⟨p1, hp1, hc1⟩ := hI.at (⟨none, 0, 0, [], none, 0, 0, [], none, 0, 0, []⟩ : Mp) (i).toNat (by omega)
   refine J.ok (OK.index 14 25 3 la p1 len (i).toNat i (p1.add ((i).toNat * 3)) (by kernel_rfl) (by kernel_rfl) hp1 (by omega) (by omega) rfl) ?_
   refine J.ok (OK.ldCells 15 62 (p1.add ((i).toNat * 3)) (mpC (l.getD (i).toNat (⟨none, 0, 0, [], none, 0, 0, [], none, 0, 0, []⟩ : Mp))) (by kernel_rfl) (by kernel_rfl) (by kernel_rfl) (fun j_ v_ hj_ => S1.cell (hc1 j_ v_ hj_))) ?_
   refine J.callF 16 g #[.agg (mpA (l.getD (i).toNat (⟨none, 0, 0, [], none, 0, 0, [], none, 0, 0, []⟩ : Mp)))] hbg (by kernel_rfl) (hcall (i).toNat w1 (by have := hI.len_eq; omega) S1.nil) ?_
   rintro _ w2 ⟨rfl, T1⟩
   have S2 : Sep w [] w2 := S1.trans T1
   refine J.b 1 [] [] [] 16 (q (l.getD (i).toNat (⟨none, 0, 0, [], none, 0, 0, [], none, 0, 0, []⟩ : Mp))) (fun fk2 => ?_) fun fk2 => ?_
   ·skip
    refine J.e 6 [iv i] Tryz.func58 (hR _ _ ?_)
    exact ⟨by rw [tup_one, indexF_some (⟨none, 0, 0, [], none, 0, 0, [], none, 0, 0, []⟩ : Mp) i.toNat (by have := hI.len_eq; omega) hq fk2, Int.toNat_of_nonneg h0], S2.nil⟩
   refine J.wi 5 [false] [] [] 18 (i + 1) ?_
   exact J.t 3 (ih1 _ (show ((len : Int) - (i + 1)).toNat < mm1 from by omega) (i + 1) w2 (by omega) (by omega) (by intro j hj; by_cases e : j = i.toNat; (subst e; exact fk2); exact hq j (by omega)) S2 rfl)
  refine J.e 6 [iv (-1)] Tryz.func58 (hR _ _ ?_)
  exact ⟨by rw [tup_one, indexF_none (⟨none, 0, 0, [], none, 0, 0, [], none, 0, 0, []⟩ : Mp) fun j hj => hq j (by have := hI.len_eq; omega)], S1.nil⟩
 exact J.t 13 (L58_1 _ 0 w (by omega) (by omega) (by intro j hj; simp at hj) S0 rfl)

theorem containsMP0 (la : Option Addr) (len cap : Nat) (l : List Mp) (g : FuncId) (q : Mp → Bool) (w : World) (hI : Recs mpE 3 w la len l) (hlen : len ≤ 9223372036854775807) (hbg : HasBody Tryz.prog g) (hcall : ∀ (i : Nat) (w2 : World), i < l.length → Sep w [] w2 → Ret Tryz.prog g #[.agg (mpA (l.getD i (⟨none, 0, 0, [], none, 0, 0, [], none, 0, 0, []⟩ : Mp)))] w2 (fun v w3 => v = .bool (q (l.getD i (⟨none, 0, 0, [], none, 0, 0, [], none, 0, 0, []⟩ : Mp))) ∧ Sep w2 [] w3)) : Ret Tryz.prog 22 #[.slice la len cap, .func (.func g) #[] #[]] w (fun v w' => v = .bool (l.any q) ∧ Sep w [] w') := by
 refine Ret.st (N := 9) Tryz.func22 fun R hR S0 => ?_
 refine J.r 8 [] [(6, .func (.func g) #[] #[]), (5, .slice la len cap)] [] ?_
 refine J.callF 7 58 #[.slice la len cap, .func (.func g) #[] #[]] hb58 (by kernel_rfl) (indexMP0 la len cap l g  q _ (hI.sep S0) (by first | omega | (simp; omega)) hbg (hcall)) ?_
 rintro _ w1 ⟨rfl, T1⟩
 have S1 : Sep w [] w1 := S0.trans T1
 refine J.e 3 [.bool (decide ((indexF q l) ≥ 0))] Tryz.func22 (hR _ _ ?_)
 exact ⟨congrArg Value.bool (by first | exact indexF_nonneg), S1.nil⟩

def K152a_0 := adv 13 [] (bodyOf Tryz.f152)
theorem indexI1 (la : Option Addr) (len cap : Nat) (l : List Int) (g : FuncId) (c1 : Value) (q : Int → Bool) (w : World) (hI : Ones (Value.int .i64) w la len l) (hlen : len ≤ 9223372036854775807) (hbg : HasBody Tryz.prog g) (hcall : ∀ (i : Nat) (w2 : World), i < l.length → Sep w [] w2 → Ret Tryz.prog g #[iv (l.getD i 0), c1] w2 (fun v w3 => v = .bool (q (l.getD i 0)) ∧ Sep w2 [] w3)) : Ret Tryz.prog 152 #[.slice la len cap, .func (.func g) #[] #[c1]] w (fun v w' => v = iv (indexF q l) ∧ Sep w [] w') := by
 refine Ret.st (N := 19) Tryz.func152 fun R hR S0 => ?_
 have L152_1 : ∀ (mm_ : Nat) (i : Int) (w1 : World), (0 ≤ i) → (i ≤ (len : Int)) → (∀ j, j < (i).toNat → q (l.getD j 0) = false) → Sep w [] w1 → ((len : Int) - i).toNat = mm_ → J Tryz.prog 152 19 R K152a_0 [(8, iv i), (7, iv (len : Int)), (0, .slice la len cap), (1, .func (.func g) #[] #[c1])] w1 := by
  intro mm1
  induction mm1 using Nat.strongRecOn with
  | _ mm1 ih1 =>
  intro i w1 h0 h1 hq S1 hm1
  refine J.c 5 [] [] [] 9 (i < (len : Int)) (fun fk1 => ?_) fun fk1 => ?_
  ·skip
   refine J.r 14 [true] [(13, iv i), (12, .slice la len cap), (11, .func (.func g) #[] #[c1]), (5, iv i)] [] ?_
   obtain ⟨p1, hp1, hc1⟩ := hI.at 0 (i).toNat (by omega)
   refine J.ok (OK.index 14 26 1 la p1 len (i).toNat i (p1.add (i).toNat) (by kernel_rfl) (by kernel_rfl) hp1 (by omega) (by omega) (by rw [Nat.mul_one])) ?_
   refine J.ok (OK.ldCell 15 3 (p1.add (i).toNat) (iv (l.getD (i).toNat 0)) (by kernel_rfl) (by kernel_rfl) (S1.cell hc1)) ?_
   refine J.callF 16 g #[iv (l.getD (i).toNat 0), c1] hbg (by kernel_rfl) (hcall (i).toNat w1 (by have := hI.len_eq; omega) S1.nil) ?_
   rintro _ w2 ⟨rfl, T1⟩
   have S2 : Sep w [] w2 := S1.trans T1
   refine J.b 1 [] [] [] 16 (q (l.getD (i).toNat 0)) (fun fk2 => ?_) fun fk2 => ?_
   ·skip
    refine J.e 6 [iv i] Tryz.func152 (hR _ _ ?_)
    exact ⟨by rw [tup_one, indexF_some 0 i.toNat (by have := hI.len_eq; omega) hq fk2, Int.toNat_of_nonneg h0], S2.nil⟩
   refine J.wi 5 [false] [] [] 18 (i + 1) ?_
   exact J.t 3 (ih1 _ (show ((len : Int) - (i + 1)).toNat < mm1 from by omega) (i + 1) w2 (by omega) (by omega) (by intro j hj; by_cases e : j = i.toNat; (subst e; exact fk2); exact hq j (by omega)) S2 rfl)
  refine J.e 6 [iv (-1)] Tryz.func152 (hR _ _ ?_)
  exact ⟨by rw [tup_one, indexF_none 0 fun j hj => hq j (by have := hI.len_eq; omega)], S1.nil⟩
 exact J.t 13 (L152_1 _ 0 w (by omega) (by omega) (by intro j hj; simp at hj) S0 rfl)

theorem containsI1 (la : Option Addr) (len cap : Nat) (l : List Int) (g : FuncId) (c1 : Value) (q : Int → Bool) (w : World) (hI : Ones (Value.int .i64) w la len l) (hlen : len ≤ 9223372036854775807) (hbg : HasBody Tryz.prog g) (hcall : ∀ (i : Nat) (w2 : World), i < l.length → Sep w [] w2 → Ret Tryz.prog g #[iv (l.getD i 0), c1] w2 (fun v w3 => v = .bool (q (l.getD i 0)) ∧ Sep w2 [] w3)) : Ret Tryz.prog 103 #[.slice la len cap, .func (.func g) #[] #[c1]] w (fun v w' => v = .bool (l.any q) ∧ Sep w [] w') := by
 refine Ret.st (N := 9) Tryz.func103 fun R hR S0 => ?_
 refine J.r 8 [] [(6, .func (.func g) #[] #[c1]), (5, .slice la len cap)] [] ?_
 refine J.callF 7 152 #[.slice la len cap, .func (.func g) #[] #[c1]] hb152 (by kernel_rfl) (indexI1 la len cap l g c1 q _ (hI.sep S0) (by first | omega | (simp; omega)) hbg (hcall)) ?_
 rintro _ w1 ⟨rfl, T1⟩
 have S1 : Sep w [] w1 := S0.trans T1
 refine J.e 3 [.bool (decide ((indexF q l) ≥ 0))] Tryz.func103 (hR _ _ ?_)
 exact ⟨congrArg Value.bool (by first | exact indexF_nonneg), S1.nil⟩

end
end Go.Proofs.YtaoolgcddapegaaGreatDoor

namespace Go.Proofs.YtaoolgcddapegaaGreatDoor
noncomputable section
open Go.Eng Go.RowKit
set_option linter.unusedSimpArgs false
set_option linter.unusedVariables false
set_option maxRecDepth 20000
set_option maxHeartbeats 20000000
theorem hb153 : HasBody Tryz.prog 153 := fun _ _ => by kernel_rfl

theorem grow_any (n : Int) (w : World) (hn : 0 ≤ n ∧ n ≤ 1099511627776) : Ret Tryz.prog 153 #[.slice none 0 0, iv n] w (fun v w' => ∃ a cap, v = .slice a 0 cap ∧ Sep w [rowOf encI a cap 3 1 []] w') := by
 refine Ret.st (N := 27) Tryz.func153 fun R hR S0 => ?_
 have fk2 : ¬ (n < 0) := by omega
 refine J.h 10 [] [] [] 6 (.bool (decide (n < 0))) (.bool false) (congrArg Value.bool (decide_eq_false fk2)) ?_
 refine J.wi 12 [false] [] [] 14 (n - 0) ?_
 refine J.c 7 [] [(1, iv (n - 0))] [] 16 ((n - 0) > 0) (fun fk3 => ?_) fun fk3 => ?_
 ·skip
  refine J.r 5 [true] [(19, iv 0), (17, .slice none 0 0)] [] ?_
  refine J.ok (OK.slice 20 26 1 none 0 0 none (some (iv 0)) 0 0 (by kernel_rfl) (by kernel_rfl) (.inl ⟨rfl, rfl⟩) (.inr ⟨_, _, rfl, rfl⟩) (by first | omega | (simp; omega)) (by first | omega | (simp; omega))) ?_
  refine J.head (.slice none 0 0) (by rw [subA_zero]; try rfl) ?_
  refine J.r 1 [] [(21, iv (n - 0))] [] ?_
  refine J.appz encI (0 : Int) S0 22 26 3 3 1 .i64 .i64 (n - 0) (n - 0).toNat (iv 0) 8 (by kernel_rfl) (by omega) (by omega) (by kernel_rfl) (by kernel_rfl) (by kernel_rfl) (by kernel_rfl) (by decide) (by rfl) (⟨by omega, by omega⟩) ?_
  intro b1 rc1 w1 S1
  refine J.r 2 [] [(24, iv 0)] [] ?_
  have := (rowOf_cells (S1.nth 0 rfl)).2.2
  refine J.ok (OK.slice 25 26 1 (some ⟨b1, 0, none⟩) ((List.replicate (n - 0).toNat (0 : Int)).length) rc1 none (some (iv 0)) 0 0 (by kernel_rfl) (by kernel_rfl) (.inl ⟨rfl, rfl⟩) (.inr ⟨_, _, rfl, rfl⟩) (by first | omega | (simp; omega)) (by first | omega | (simp; omega))) ?_
  refine J.head (.slice (some ⟨b1, 0, none⟩) 0 rc1) (by rw [subA_zero]; try rfl) ?_
  refine J.e 7 [.slice (some ⟨b1, 0, none⟩) 0 rc1] Tryz.func153 (hR _ _ ?_)
  exact ⟨_, _, rfl, (S1.cut 0 rfl (fun _ => rfl) 0 (Nat.zero_le _)).pick 0 rfl⟩
 refine J.e 7 [.slice none 0 0] Tryz.func153 (hR _ _ ?_)
 exact ⟨none, 0, rfl, S0.nil.nilRow 3 1⟩

theorem hb105 : HasBody Tryz.prog 105 := fun _ _ => by kernel_rfl

theorem concat2_any (bx : Nat) (la : Option Addr) (na ca : Nat) (xa : List Int) (lb : Option Addr) (nb cb : Nat) (xb : List Int) (w : World) (ha : Ints w la na xa) (hb : Ints w lb nb xb) (hbx : (box bx [.slice la na ca, .slice lb nb cb] 26).holds w) (hsm : na ≤ 1048576 ∧ nb ≤ 1048576) : Ret Tryz.prog 105 #[.slice (some ⟨bx, 0, none⟩) 2 2] w (fun v w' => ∃ a cap, v = .slice a (xa ++ xb).length cap ∧ Sep w [rowOf encI a cap 3 1 (xa ++ xb)] w') := by
 refine Ret.st (N := 36) Tryz.func105 fun R hR S0 => ?_
 have hla_ := ha.len_eq
 have hlb_ := hb.len_eq
 refine J.r 28 [true] [(11, iv 0), (10, iv 2), (9, .slice (some ⟨bx, 0, none⟩) 2 2), (3, iv 0)] [] ?_
 refine J.ok (OK.index 13 60 1 (some ⟨bx, 0, none⟩) ⟨bx, 0, none⟩ 2 0 0 ⟨bx, 0, none⟩ (by kernel_rfl) (by kernel_rfl) rfl (by omega) (by omega) (by rfl)) ?_
 refine J.ok (OK.ldRo S0 hbx 14 26 0 (.slice la na ca) (by kernel_rfl) (by kernel_rfl)) ?_
 refine J.wi 8 [] [] [] 18 (0 + (na : Int)) ?_
 have fk2 : ¬ ((0 + (na : Int)) < 0) := by omega
 refine J.h 7 [] [(3, iv (0 + (na : Int)))] [] 20 (.bool (decide ((0 + (na : Int)) < 0))) (.bool false) (congrArg Value.bool (decide_eq_false fk2)) ?_
 refine J.r 19 [false, true] [(11, iv 1)] [] ?_
 refine J.ok (OK.index 13 60 1 (some ⟨bx, 0, none⟩) ⟨bx, 0, none⟩ 2 1 1 ⟨bx, 1, none⟩ (by kernel_rfl) (by kernel_rfl) rfl (by omega) (by omega) (by rfl)) ?_
 refine J.ok (OK.ldRo S0 hbx 14 26 1 (.slice lb nb cb) (by kernel_rfl) (by kernel_rfl)) ?_
 refine J.wi 8 [] [] [18] 18 ((0 + (na : Int)) + (nb : Int)) ?_
 have fk4 : ¬ (((0 + (na : Int)) + (nb : Int)) < 0) := by omega
 refine J.h 7 [] [(3, iv ((0 + (na : Int)) + (nb : Int)))] [20] 20 (.bool (decide (((0 + (na : Int)) + (nb : Int)) < 0))) (.bool false) (congrArg Value.bool (decide_eq_false fk4)) ?_
 refine J.cf 18 [false, false] [] [11] 24 hb153 (grow_any ((0 + (na : Int)) + (nb : Int)) _ (by omega)) ?_
 rintro _ w1 ⟨ra1, rc1, rfl, T1⟩
 have S1 : Sep w [rowOf encI ra1 rc1 3 1 ([])] w1 := S0.trans T1
 refine J.r 22 [true] [(27, iv 0), (26, iv 2), (25, .slice (some ⟨bx, 0, none⟩) 2 2), (6, .slice ra1 0 rc1)] [] ?_
 refine J.ok (OK.index 29 60 1 (some ⟨bx, 0, none⟩) ⟨bx, 0, none⟩ 2 0 0 ⟨bx, 0, none⟩ (by kernel_rfl) (by kernel_rfl) rfl (by omega) (by omega) (by rfl)) ?_
 refine J.ok (OK.ldRo S1 hbx 30 26 0 (.slice la na ca) (by kernel_rfl) (by kernel_rfl)) ?_
 refine J.r 5 [] [(32, .slice la na ca), (31, .slice ra1 0 rc1)] [] ?_
 have hz1 := ha.sep S1
 have := hz1.len_eq
 refine J.appendN encI S1 0 ([]) xa na (by first | omega | (simp; omega)) 33 26 (iv 0) 8 la ca rfl (by kernel_rfl) (by kernel_rfl) (by kernel_rfl) (by kernel_rfl) (by decide) (ha.sep S1).enc (fun h_ => Ones.nil (h_ ▸ hz1)) (fun _ => rfl) (fun _ => rfl) (⟨by first | omega | (simp; omega), by first | omega | (simp; omega)⟩) ?_
 intro ra2 rc2 w2 S2
 replace S2 : Sep w [rowOf encI ra2 rc2 3 1 xa] w2 := S2
 refine J.r 19 [true] [(27, iv 1), (6, .slice ra2 xa.length rc2)] [] ?_
 refine J.ok (OK.index 29 60 1 (some ⟨bx, 0, none⟩) ⟨bx, 0, none⟩ 2 1 1 ⟨bx, 1, none⟩ (by kernel_rfl) (by kernel_rfl) rfl (by omega) (by omega) (by rfl)) ?_
 refine J.ok (OK.ldRo S2 hbx 30 26 1 (.slice lb nb cb) (by kernel_rfl) (by kernel_rfl)) ?_
 refine J.r 5 [] [(32, .slice lb nb cb), (31, .slice ra2 xa.length rc2)] [] ?_
 have hz2 := hb.sep S2
 have := hz2.len_eq
 refine J.appendN encI S2 0 xa xb nb (by first | omega | (simp; omega)) 33 26 (iv 0) 8 lb cb rfl (by kernel_rfl) (by kernel_rfl) (by kernel_rfl) (by kernel_rfl) (by decide) (hb.sep S2).enc (fun h_ => Ones.nil (h_ ▸ hz2)) (fun _ => rfl) (fun _ => rfl) (⟨by first | omega | (simp; omega), by first | omega | (simp; omega)⟩) ?_
 intro ra3 rc3 w3 S3
 replace S3 : Sep w [rowOf encI ra3 rc3 3 1 (xa ++ xb)] w3 := S3
 refine J.e 20 [.slice ra3 ((xa ++ xb).length) rc3] Tryz.func105 (hR _ _ ?_)
 exact ⟨_, _, rfl, S3.pick 0 rfl⟩

theorem hb60 : HasBody Tryz.prog 60 := fun _ _ => by kernel_rfl
def K60_0 := adv 234 [false, false, false, true, false, true, false, true, false, false] (bodyOf Tryz.f60)
theorem pvalid_any (p : Prg) (w : World) (hp : prgQ w p) : Ret Tryz.prog 60 #[.agg (prgA p)] w (fun v w' => v = .bool (validP p) ∧ Sep w [] w') := by
 refine Ret.st (N := 117) Tryz.func60 fun R hR S0 => ?_
 obtain ⟨q1, q2, q3, q4, q5, q6, q7, q8, q9, q10, q11, q12, q13, q14, q15, q16, q17, q18, q19, q20, q21, q22, q23, q24, q25, _⟩ := id hp
 have ql1 := q2.len_eq
 have ql2 := q5.len_eq
 have ql3 := q8.len_eq
 have ql4 := q11.len_eq
 have ql5 := q15.len_eq
 have ql6 := q18.len_eq
 have ql7 := q21.len_eq
 have ql8 := q24.len_eq
 have hrep : (List.replicate (p.gCells).toNat false).length = p.gCells.toNat := List.length_replicate
 have hcat : (p.gInputs_l ++ p.gStates_l).length = p.gInputs_l.length + p.gStates_l.length := List.length_append
 refine J.nw 2 [] [] [] S0 1 (prgC p) 28 fun b1 w1 S1 => ?_
 refine J.lb 6 [] [] [] S1 0 rfl 10 (.slice p.gCode_a p.gCode_n p.gCode_c) ?_
 refine J.c 3 [] [] [] 13 ((p.gCode_n : Int) > 4000) (fun fk1 => ?_) fun fk1 => ?_
 ·skip
  refine J.e 42 [.bool false] Tryz.func60 (hR _ _ ?_)
  exact ⟨congrArg Value.bool (validP_no (.inl (by omega))).symm, S1.nil⟩
 refine J.lb 1 [] [] [] S1 0 rfl 15 (.slice p.gTypes_a p.gTypes_n p.gTypes_c) ?_
 refine J.c 4 [] [] [] 19 ((p.gTypes_n : Int) > 100) (fun fk2 => ?_) fun fk2 => ?_
 ·skip
  refine J.e 36 [.bool false] Tryz.func60 (hR _ _ ?_)
  exact ⟨congrArg Value.bool (validP_no (.inl (by omega))).symm, S1.nil⟩
 refine J.lb 1 [] [] [] S1 0 rfl 21 (.slice p.gCurves_a p.gCurves_n p.gCurves_c) ?_
 refine J.c 4 [] [] [] 25 ((p.gCurves_n : Int) > 100) (fun fk3 => ?_) fun fk3 => ?_
 ·skip
  refine J.e 30 [.bool false] Tryz.func60 (hR _ _ ?_)
  exact ⟨congrArg Value.bool (validP_no (.inl (by omega))).symm, S1.nil⟩
 refine J.lb 1 [] [] [] S1 0 rfl 27 (.slice p.gMaps_a p.gMaps_n p.gMaps_c) ?_
 refine J.c 4 [] [] [] 31 ((p.gMaps_n : Int) > 100) (fun fk4 => ?_) fun fk4 => ?_
 ·skip
  refine J.e 24 [.bool false] Tryz.func60 (hR _ _ ?_)
  exact ⟨congrArg Value.bool (validP_no (.inl (by omega))).symm, S1.nil⟩
 refine J.lb 1 [] [] [] S1 0 rfl 33 (iv p.gCells) ?_
 refine J.c 3 [] [] [] 36 (p.gCells < 0) (fun fk5 => ?_) fun fk5 => ?_
 ·skip
  refine J.e 19 [.bool false] Tryz.func60 (hR _ _ ?_)
  exact ⟨congrArg Value.bool (validP_no (.inl (by omega))).symm, S1.nil⟩
 refine J.lb 1 [] [] [] S1 0 rfl 38 (iv p.gCells) ?_
 refine J.c 3 [] [] [] 41 (p.gCells > 1000) (fun fk6 => ?_) fun fk6 => ?_
 ·skip
  refine J.e 14 [.bool false] Tryz.func60 (hR _ _ ?_)
  exact ⟨congrArg Value.bool (validP_no (.inl (by omega))).symm, S1.nil⟩
 refine J.lb 1 [] [] [] S1 0 rfl 43 (.slice p.gInitial_a p.gInitial_n p.gInitial_c) ?_
 refine J.lb 2 [] [(44, iv (p.gInitial_n : Int))] [] S1 0 rfl 46 (.slice p.gStates_a p.gStates_n p.gStates_c) ?_
 refine J.cn 4 [] [] [] 49 ((p.gInitial_n : Int) = (p.gStates_n : Int)) (fun fk7 => ?_) fun fk7 => ?_
 ·skip
  refine J.nw 4 [false] [] [] S1 3 [.nilFunc] 141 fun b2 w2 S2 => ?_
  refine J.sb 0 [] [] [] S2 0 rfl [.func (.func 92) #[] #[]] rfl fun w3 S3 => ?_
  refine J.lb 5 [] [] [] S3 1 rfl 51 (.slice p.gTypes_a p.gTypes_n p.gTypes_c) ?_
  refine J.r 1 [] [(52, .func (.func 94) #[] #[pv b2])] [] ?_
  refine J.callF 53 93 #[.slice p.gTypes_a p.gTypes_n p.gTypes_c, .func (.func 94) #[] #[pv b2]] hb93 (by kernel_rfl) (containsFX1 p.gTypes_a p.gTypes_n p.gTypes_c p.gTypes_l 94 (pv b2) (fun x => !fixB x) _ (q5.sep S3) (by first | omega | (simp; omega)) hb94 (fun i_ w_ hi_ S_ => val2_any _ b2 w_ (fxdQ_sep (fxdQ_sep (getD_Q q6 fx0 (n := i_) hi_) S3) S_) (box_keep (S3.nth 0 rfl) S_))) ?_
  rintro _ w4 ⟨rfl, T1⟩
  have S4 : Sep w [box b2 [.func (.func 92) #[] #[]] 141, box b1 (prgC p) 28] w4 := S3.trans T1
  refine J.b 1 [] [] [] 54 (List.any p.gTypes_l (fun x => !fixB x)) (fun fk8 => ?_) fun fk8 => ?_
  ·skip
   refine J.e 17 [.bool false] Tryz.func60 (hR _ _ ?_)
   exact ⟨congrArg Value.bool (validP_no (.inr (.inl (any_true_all fk8)))).symm, S4.nil⟩
  refine J.lb 1 [] [] [] S4 1 rfl 56 (.slice p.gCurves_a p.gCurves_n p.gCurves_c) ?_
  refine J.r 1 [] [(57, .func (.func 96) #[] #[pv b2])] [] ?_
  refine J.callF 58 24 #[.slice p.gCurves_a p.gCurves_n p.gCurves_c, .func (.func 96) #[] #[pv b2]] hb24 (by kernel_rfl) (containsCV1 p.gCurves_a p.gCurves_n p.gCurves_c p.gCurves_l 96 (pv b2) (fun x => !validV x) _ (q8.sep S4) (by first | omega | (simp; omega)) hb96 (fun i_ w_ hi_ S_ => val3_any _ b2 w_ (crvQ_sep (crvQ_sep (getD_Q q9 (⟨none, 0, 0, [], none, 0, 0, []⟩ : Crv) (n := i_) hi_) S4) S_) (box_keep (S4.nth 0 rfl) S_))) ?_
  rintro _ w5 ⟨rfl, T2⟩
  have S5 : Sep w [box b2 [.func (.func 92) #[] #[]] 141, box b1 (prgC p) 28] w5 := S4.trans T2
  refine J.b 2 [] [] [] 60 (List.any p.gCurves_l (fun x => !validV x)) (fun fk9 => ?_) fun fk9 => ?_
  ·skip
   refine J.e 11 [.bool false] Tryz.func60 (hR _ _ ?_)
   exact ⟨congrArg Value.bool (validP_no (.inr (.inr (.inl (any_true_all fk9))))).symm, S5.nil⟩
  refine J.lb 1 [] [] [] S5 1 rfl 62 (.slice p.gMaps_a p.gMaps_n p.gMaps_c) ?_
  refine J.r 1 [] [(63, .func (.func 98) #[] #[pv b2])] [] ?_
  refine J.callF 64 22 #[.slice p.gMaps_a p.gMaps_n p.gMaps_c, .func (.func 98) #[] #[pv b2]] hb22 (by kernel_rfl) (containsMP1 p.gMaps_a p.gMaps_n p.gMaps_c p.gMaps_l 98 (pv b2) (fun x => !validM x) _ (q11.sep S5) (by first | omega | (simp; omega)) hb98 (fun i_ w_ hi_ S_ => val4_any _ b2 w_ (mpQ_sep (mpQ_sep (getD_Q q12 (⟨none, 0, 0, [], none, 0, 0, [], none, 0, 0, []⟩ : Mp) (n := i_) hi_) S5) S_) (box_keep (S5.nth 0 rfl) S_))) ?_
  rintro _ w6 ⟨rfl, T3⟩
  have S6 : Sep w [box b2 [.func (.func 92) #[] #[]] 141, box b1 (prgC p) 28] w6 := S5.trans T3
  refine J.b 2 [] [] [] 65 (List.any p.gMaps_l (fun x => !validM x)) (fun fk10 => ?_) fun fk10 => ?_
  ·skip
   refine J.e 5 [.bool false] Tryz.func60 (hR _ _ ?_)
   exact ⟨congrArg Value.bool (validP_no (.inr (.inr (.inr (.inl (any_true_all fk10)))))).symm, S6.nil⟩
  refine J.lb 6 [false] [] [] S6 1 rfl 67 (.slice p.gCode_a p.gCode_n p.gCode_c) ?_
  refine J.r 1 [] [(68, .func (.func 101) #[] #[pv b2, pv b1])] [] ?_
  refine J.callF 69 100 #[.slice p.gCode_a p.gCode_n p.gCode_c, .func (.func 101) #[] #[pv b2, pv b1]] hb100 (by kernel_rfl) (containsIN2 p.gCode_a p.gCode_n p.gCode_c p.gCode_l 101 (pv b2) (pv b1) (fun x => !fitsI p x) _ (q2.sep S6) (by first | omega | (simp; omega)) hb101 (fun i_ w_ hi_ S_ => val5_any p _ b2 b1 w_ (prgQ_sep (prgQ_sep hp S6) S_) (insQ_sep (insQ_sep (getD_Q q3 ins0 (n := i_) hi_) S6) S_) (box_keep (S6.nth 0 rfl) S_) (box_keep (S6.nth 1 rfl) S_))) ?_
  rintro _ w7 ⟨rfl, T4⟩
  have S7 : Sep w [box b2 [.func (.func 92) #[] #[]] 141, box b1 (prgC p) 28] w7 := S6.trans T4
  refine J.b 1 [] [] [] 69 (List.any p.gCode_l (fun x => !fitsI p x)) (fun fk11 => ?_) fun fk11 => ?_
  ·skip
   refine J.e 5 [.bool false] Tryz.func60 (hR _ _ ?_)
   exact ⟨congrArg Value.bool (validP_no (.inr (.inr (.inr (.inr (.inl (any_true_all fk11))))))).symm, S7.nil⟩
  refine J.lb 6 [false] [] [] S7 1 rfl 71 (.slice p.gInputs_a p.gInputs_n p.gInputs_c) ?_
  refine J.lb 1 [] [] [] S7 1 rfl 73 (.slice p.gOutputs_a p.gOutputs_n p.gOutputs_c) ?_
  refine J.lb 1 [] [] [] S7 1 rfl 75 (.slice p.gStates_a p.gStates_n p.gStates_c) ?_
  refine J.newSlice S7 76 3 [.slice p.gInputs_a p.gInputs_n p.gInputs_c, .slice p.gOutputs_a p.gOutputs_n p.gOutputs_c, .slice p.gStates_a p.gStates_n p.gStates_c] 26 (by kernel_rfl) ?_
  intro b3 w8 S8
  refine J.r 16 [true] [(78, iv 0), (77, iv 3)] [] ?_
  refine J.ok (OK.index 80 60 1 (some ⟨b3, 0, none⟩) ⟨b3, 0, none⟩ 3 0 0 ⟨b3, 0, none⟩ (by kernel_rfl) (by kernel_rfl) rfl (by omega) (by omega) (by rfl)) ?_
  refine J.lb 0 [] [] [] S8 0 rfl 81 (.slice p.gInputs_a p.gInputs_n p.gInputs_c) ?_
  refine J.c 8 [] [(5, .slice p.gInputs_a p.gInputs_n p.gInputs_c)] [] 85 ((p.gInputs_n : Int) > 1000) (fun fk12 => ?_) fun fk12 => ?_
  ·skip
   refine J.e 10 [.bool false] Tryz.func60 (hR _ _ ?_)
   exact ⟨congrArg Value.bool (validP_no (.inr (.inr (.inr (.inr (.inr (.inl (cellsL_long (by omega))))))))).symm, S8.nil⟩
  refine J.r 2 [] [(87, .func (.func 104) #[] #[pv b1]), (86, .slice p.gInputs_a p.gInputs_n p.gInputs_c)] [] ?_
  refine J.callF 88 103 #[.slice p.gInputs_a p.gInputs_n p.gInputs_c, .func (.func 104) #[] #[pv b1]] hb103 (by kernel_rfl) (containsI1 p.gInputs_a p.gInputs_n p.gInputs_c p.gInputs_l 104 (pv b1) (fun c => !(decide (0 ≤ c) && decide (c < p.gCells))) _ (q15.sep S8) (by first | omega | (simp; omega)) hb104 (fun i_ w_ hi_ S_ => val6_any p _ b1 w_ (box_keep (S8.nth 2 rfl) S_))) ?_
  rintro _ w9 ⟨rfl, T5⟩
  have S9 : Sep w [box b3 [.slice p.gInputs_a p.gInputs_n p.gInputs_c, .slice p.gOutputs_a p.gOutputs_n p.gOutputs_c, .slice p.gStates_a p.gStates_n p.gStates_c] 26, box b2 [.func (.func 92) #[] #[]] 141, box b1 (prgC p) 28] w9 := S8.trans T5
  refine J.b 2 [] [] [] 89 (List.any p.gInputs_l (fun c => !(decide (0 ≤ c) && decide (c < p.gCells)))) (fun fk13 => ?_) fun fk13 => ?_
  ·skip
   refine J.e 5 [.bool false] Tryz.func60 (hR _ _ ?_)
   exact ⟨congrArg Value.bool (validP_no (.inr (.inr (.inr (.inr (.inr (.inl (cellsL_any fk13)))))))).symm, S9.nil⟩
  refine J.r 19 [false, true] [(78, iv 1)] [] ?_
  refine J.ok (OK.index 80 60 1 (some ⟨b3, 0, none⟩) ⟨b3, 0, none⟩ 3 1 1 ⟨b3, 1, none⟩ (by kernel_rfl) (by kernel_rfl) rfl (by omega) (by omega) (by rfl)) ?_
  refine J.lb 0 [] [] [] S9 0 rfl 81 (.slice p.gOutputs_a p.gOutputs_n p.gOutputs_c) ?_
  refine J.c 8 [] [(5, .slice p.gOutputs_a p.gOutputs_n p.gOutputs_c)] [85] 85 ((p.gOutputs_n : Int) > 1000) (fun fk14 => ?_) fun fk14 => ?_
  ·skip
   refine J.e 10 [.bool false] Tryz.func60 (hR _ _ ?_)
   exact ⟨congrArg Value.bool (validP_no (.inr (.inr (.inr (.inr (.inr (.inr (.inl (cellsL_long (by omega)))))))))).symm, S9.nil⟩
  refine J.r 2 [] [(87, .func (.func 104) #[] #[pv b1]), (86, .slice p.gOutputs_a p.gOutputs_n p.gOutputs_c)] [] ?_
  refine J.callF 88 103 #[.slice p.gOutputs_a p.gOutputs_n p.gOutputs_c, .func (.func 104) #[] #[pv b1]] hb103 (by kernel_rfl) (containsI1 p.gOutputs_a p.gOutputs_n p.gOutputs_c p.gOutputs_l 104 (pv b1) (fun c => !(decide (0 ≤ c) && decide (c < p.gCells))) _ (q21.sep S9) (by first | omega | (simp; omega)) hb104 (fun i_ w_ hi_ S_ => val6_any p _ b1 w_ (box_keep (S9.nth 2 rfl) S_))) ?_
  rintro _ w10 ⟨rfl, T6⟩
  have S10 : Sep w [box b3 [.slice p.gInputs_a p.gInputs_n p.gInputs_c, .slice p.gOutputs_a p.gOutputs_n p.gOutputs_c, .slice p.gStates_a p.gStates_n p.gStates_c] 26, box b2 [.func (.func 92) #[] #[]] 141, box b1 (prgC p) 28] w10 := S9.trans T6
  refine J.b 2 [] [] [89] 89 (List.any p.gOutputs_l (fun c => !(decide (0 ≤ c) && decide (c < p.gCells)))) (fun fk15 => ?_) fun fk15 => ?_
  ·skip
   refine J.e 5 [.bool false] Tryz.func60 (hR _ _ ?_)
   exact ⟨congrArg Value.bool (validP_no (.inr (.inr (.inr (.inr (.inr (.inr (.inl (cellsL_any fk15))))))))).symm, S10.nil⟩
  refine J.r 19 [false, true] [(78, iv 2)] [] ?_
  refine J.ok (OK.index 80 60 1 (some ⟨b3, 0, none⟩) ⟨b3, 0, none⟩ 3 2 2 ⟨b3, 2, none⟩ (by kernel_rfl) (by kernel_rfl) rfl (by omega) (by omega) (by rfl)) ?_
  refine J.lb 0 [] [] [] S10 0 rfl 81 (.slice p.gStates_a p.gStates_n p.gStates_c) ?_
  refine J.c 8 [] [(5, .slice p.gStates_a p.gStates_n p.gStates_c)] [85] 85 ((p.gStates_n : Int) > 1000) (fun fk16 => ?_) fun fk16 => ?_
  ·skip
   refine J.e 10 [.bool false] Tryz.func60 (hR _ _ ?_)
   exact ⟨congrArg Value.bool (validP_no (.inr (.inr (.inr (.inr (.inr (.inr (.inr (.inl (cellsL_long (by omega))))))))))).symm, S10.nil⟩
  refine J.r 2 [] [(87, .func (.func 104) #[] #[pv b1]), (86, .slice p.gStates_a p.gStates_n p.gStates_c)] [] ?_
  refine J.callF 88 103 #[.slice p.gStates_a p.gStates_n p.gStates_c, .func (.func 104) #[] #[pv b1]] hb103 (by kernel_rfl) (containsI1 p.gStates_a p.gStates_n p.gStates_c p.gStates_l 104 (pv b1) (fun c => !(decide (0 ≤ c) && decide (c < p.gCells))) _ (q18.sep S10) (by first | omega | (simp; omega)) hb104 (fun i_ w_ hi_ S_ => val6_any p _ b1 w_ (box_keep (S10.nth 2 rfl) S_))) ?_
  rintro _ w11 ⟨rfl, T7⟩
  have S11 : Sep w [box b3 [.slice p.gInputs_a p.gInputs_n p.gInputs_c, .slice p.gOutputs_a p.gOutputs_n p.gOutputs_c, .slice p.gStates_a p.gStates_n p.gStates_c] 26, box b2 [.func (.func 92) #[] #[]] 141, box b1 (prgC p) 28] w11 := S10.trans T7
  refine J.b 2 [] [] [89] 89 (List.any p.gStates_l (fun c => !(decide (0 ≤ c) && decide (c < p.gCells)))) (fun fk17 => ?_) fun fk17 => ?_
  ·skip
   refine J.e 5 [.bool false] Tryz.func60 (hR _ _ ?_)
   exact ⟨congrArg Value.bool (validP_no (.inr (.inr (.inr (.inr (.inr (.inr (.inr (.inl (cellsL_any fk17)))))))))).symm, S11.nil⟩
  refine J.lb 18 [false, false] [] [78] S11 2 rfl 92 (iv p.gCells) ?_
  refine J.make (enc1 Value.bool) false S11 93 78 4 1 p.gCells p.gCells ((p.gCells).toNat) (.bool false) 1 (by kernel_rfl) (by omega) (by omega) (by kernel_rfl) (by kernel_rfl) (by kernel_rfl) (by rfl) (by omega) ?_
  intro b4 w12 S12
  refine J.lb 6 [] [(6, .slice (some ⟨b4, 0, none⟩) ((List.replicate ((p.gCells).toNat) false).length) ((p.gCells).toNat))] [] S12 3 rfl 95 (.slice p.gInputs_a p.gInputs_n p.gInputs_c) ?_
  refine J.lb 1 [] [] [] S12 3 rfl 97 (.slice p.gStates_a p.gStates_n p.gStates_c) ?_
  refine J.newSlice S12 98 2 [.slice p.gInputs_a p.gInputs_n p.gInputs_c, .slice p.gStates_a p.gStates_n p.gStates_c] 26 (by kernel_rfl) ?_
  intro b5 w13 S13
  refine J.cf 0 [] [] [] 99 hb105 (concat2_any b5 p.gInputs_a p.gInputs_n p.gInputs_c p.gInputs_l p.gStates_a p.gStates_n p.gStates_c p.gStates_l _ (q15.sep S13) (q18.sep S13) (S13.nth 0 rfl) (by omega)) ?_
  rintro _ w14 ⟨ra1, rc1, rfl, T8⟩
  have S14 : Sep w [rowOf encI ra1 rc1 3 1 (p.gInputs_l ++ p.gStates_l), box b5 [.slice p.gInputs_a p.gInputs_n p.gInputs_c, .slice p.gStates_a p.gStates_n p.gStates_c] 26, rowOf (enc1 Value.bool) (some ⟨b4, 0, none⟩) ((p.gCells).toNat) 4 1 (List.replicate ((p.gCells).toNat) false), box b3 [.slice p.gInputs_a p.gInputs_n p.gInputs_c, .slice p.gOutputs_a p.gOutputs_n p.gOutputs_c, .slice p.gStates_a p.gStates_n p.gStates_c] 26, box b2 [.func (.func 92) #[] #[]] 141, box b1 (prgC p) 28] w14 := S13.trans T8
  have L60_1 : ∀ (mm_ : Nat) (tk : List Bool) (k : Int) (w15 : World), (0 ≤ k) → (k ≤ ((p.gInputs_l ++ p.gStates_l).length : Int)) → (markP (p.gInputs_l ++ p.gStates_l) p.gCells (k).toNat tk) → Sep w [rowOf encI ra1 rc1 3 1 (p.gInputs_l ++ p.gStates_l), box b5 [.slice p.gInputs_a p.gInputs_n p.gInputs_c, .slice p.gStates_a p.gStates_n p.gStates_c] 26, rowOf (enc1 Value.bool) (some ⟨b4, 0, none⟩) ((p.gCells).toNat) 4 1 tk, box b3 [.slice p.gInputs_a p.gInputs_n p.gInputs_c, .slice p.gOutputs_a p.gOutputs_n p.gOutputs_c, .slice p.gStates_a p.gStates_n p.gStates_c] 26, box b2 [.func (.func 92) #[] #[]] 141, box b1 (prgC p) 28] w15 → (((p.gInputs_l ++ p.gStates_l).length : Int) - k).toNat = mm_ → J Tryz.prog 60 117 R K60_0 [(101, iv k), (100, iv ((p.gInputs_l ++ p.gStates_l).length : Int)), (99, .slice ra1 ((p.gInputs_l ++ p.gStates_l).length) rc1), (6, .slice (some ⟨b4, 0, none⟩) ((List.replicate ((p.gCells).toNat) false).length) ((p.gCells).toNat)), (1, pv b1)] w15 := by
   intro mm1
   induction mm1 using Nat.strongRecOn with
   | _ mm1 ih1 =>
   intro tk k w15 k0 k1 hM S15 hm1
   have hck0 := fun (j : Nat) (hj : j < (p.gInputs_l ++ p.gStates_l).length) => getD_two (j := j) ((cellsL_at (cellsL_none (by omega) fk13)).2) ((cellsL_at (cellsL_none (by omega) fk17)).2) hj
   have hck1 : k < ((p.gInputs_l ++ p.gStates_l).length : Int) → _ := fun h_ => hck0 k.toNat (by omega)
   have htk := hM.1
   refine J.c 5 [] [] [] 102 (k < ((p.gInputs_l ++ p.gStates_l).length : Int)) (fun fk18 => ?_) fun fk18 => ?_
   ·skip
    have hck := hck1 (by omega)
    refine J.r 6 [true] [] [] ?_
    obtain ⟨p1, hp1⟩ := row1_addr (S15.nth 0 rfl) (show 0 < (p.gInputs_l ++ p.gStates_l).length by first | omega | (simp; omega))
    refine J.ok (OK.index 103 26 1 ra1 p1 ((p.gInputs_l ++ p.gStates_l).length) (k).toNat k (p1.add (k).toNat) (by kernel_rfl) (by kernel_rfl) hp1 (by omega) (by first | omega | (simp; omega)) (by rw [Nat.mul_one])) ?_
    refine J.ok (OK.ldCell 104 3 (p1.add (k).toNat) (iv ((p.gInputs_l ++ p.gStates_l).getD (k).toNat 0)) (by kernel_rfl) (by kernel_rfl) (row1_cell (g := (Value.int .i64)) S15 0 rfl hp1 0 (k).toNat (by first | omega | (simp; omega)))) ?_
    refine J.r 7 [] [(106, iv ((p.gInputs_l ++ p.gStates_l).getD (k).toNat 0)), (105, .slice (some ⟨b4, 0, none⟩) ((List.replicate ((p.gCells).toNat) false).length) ((p.gCells).toNat)), (8, iv ((p.gInputs_l ++ p.gStates_l).getD (k).toNat 0))] [] ?_
    obtain ⟨p2, hp2⟩ := row1_addr (S15.nth 2 rfl) (show 0 < (tk).length by first | omega | (simp; omega))
    refine J.ok (OK.index 107 78 1 (some ⟨b4, 0, none⟩) p2 ((List.replicate ((p.gCells).toNat) false).length) ((p.gInputs_l ++ p.gStates_l).getD (k).toNat 0).toNat ((p.gInputs_l ++ p.gStates_l).getD (k).toNat 0) (p2.add ((p.gInputs_l ++ p.gStates_l).getD (k).toNat 0).toNat) (by kernel_rfl) (by kernel_rfl) hp2 (by omega) (by first | omega | (simp; omega)) (by rw [Nat.mul_one])) ?_
    refine J.ok (OK.ldCell 108 4 (p2.add ((p.gInputs_l ++ p.gStates_l).getD (k).toNat 0).toNat) (.bool (tk.getD ((p.gInputs_l ++ p.gStates_l).getD (k).toNat 0).toNat false)) (by kernel_rfl) (by kernel_rfl) (row1_cell (g := Value.bool) S15 2 rfl hp2 false ((p.gInputs_l ++ p.gStates_l).getD (k).toNat 0).toNat (by first | omega | (simp; omega)))) ?_
    refine J.b 1 [] [] [] 108 (tk.getD ((p.gInputs_l ++ p.gStates_l).getD (k).toNat 0).toNat false) (fun fk19 => ?_) fun fk19 => ?_
    ·skip
     refine J.e 5 [.bool false] Tryz.func60 (hR _ _ ?_)
     exact ⟨congrArg Value.bool (validP_no (.inr (.inr (.inr (.inr (.inr (.inr (.inr (.inr (.inr (.inl (mark_twice hM (by omega) hck fk19)))))))))))).symm, S15.nil⟩
    refine J.r 5 [false] [(110, iv ((p.gInputs_l ++ p.gStates_l).getD (k).toNat 0)), (109, .slice (some ⟨b4, 0, none⟩) ((List.replicate ((p.gCells).toNat) false).length) ((p.gCells).toNat))] [] ?_
    refine J.ok (OK.index 111 78 1 (some ⟨b4, 0, none⟩) p2 ((List.replicate ((p.gCells).toNat) false).length) ((p.gInputs_l ++ p.gStates_l).getD (k).toNat 0).toNat ((p.gInputs_l ++ p.gStates_l).getD (k).toNat 0) (p2.add ((p.gInputs_l ++ p.gStates_l).getD (k).toNat 0).toNat) (by kernel_rfl) (by kernel_rfl) hp2 (by omega) (by first | omega | (simp; omega)) (by rw [Nat.mul_one])) ?_
    refine J.stRow1 Value.bool bool_one S15 2 tk 4 p2 ((p.gInputs_l ++ p.gStates_l).getD (k).toNat 0).toNat true rfl (by kernel_rfl) hp2 (by first | omega | (simp; omega)) (by kernel_rfl) ?_
    intro w16 S16
    replace S16 : Sep w [rowOf encI ra1 rc1 3 1 (p.gInputs_l ++ p.gStates_l), box b5 [.slice p.gInputs_a p.gInputs_n p.gInputs_c, .slice p.gStates_a p.gStates_n p.gStates_c] 26, rowOf (enc1 Value.bool) (some ⟨b4, 0, none⟩) ((p.gCells).toNat) 4 1 (tk.set ((p.gInputs_l ++ p.gStates_l).getD (k).toNat 0).toNat true), box b3 [.slice p.gInputs_a p.gInputs_n p.gInputs_c, .slice p.gOutputs_a p.gOutputs_n p.gOutputs_c, .slice p.gStates_a p.gStates_n p.gStates_c] 26, box b2 [.func (.func 92) #[] #[]] 141, box b1 (prgC p) 28] w16 := S16
    refine J.wi 4 [] [] [] 112 (k + 1) ?_
    exact J.t 3 (ih1 _ (show (((p.gInputs_l ++ p.gStates_l).length : Int) - (k + 1)).toNat < mm1 from by omega) (tk.set ((p.gInputs_l ++ p.gStates_l).getD (k).toNat 0).toNat true) (k + 1) w16 (by omega) (by omega) (by rw [show (k + 1).toNat = k.toNat + 1 by omega]; exact mark_step hM (by omega) hck fk19) S16 rfl)
   refine J.lb 5 [false] [] [] S15 5 rfl 114 (.slice p.gInitial_a p.gInitial_n p.gInitial_c) ?_
   refine J.callF 115 103 #[.slice p.gInitial_a p.gInitial_n p.gInitial_c, .func (.func 106) #[] #[]] hb103 (by kernel_rfl) (containsI0 p.gInitial_a p.gInitial_n p.gInitial_c p.gInitial_l 106  (fun n => !initB n) _ (q24.sep S15) (by first | omega | (simp; omega)) hb106 (fun i_ w_ hi_ S_ => val7_any _ w_)) ?_
   rintro _ w17 ⟨rfl, T9⟩
   have S17 : Sep w [rowOf encI ra1 rc1 3 1 (p.gInputs_l ++ p.gStates_l), box b5 [.slice p.gInputs_a p.gInputs_n p.gInputs_c, .slice p.gStates_a p.gStates_n p.gStates_c] 26, rowOf (enc1 Value.bool) (some ⟨b4, 0, none⟩) ((p.gCells).toNat) 4 1 tk, box b3 [.slice p.gInputs_a p.gInputs_n p.gInputs_c, .slice p.gOutputs_a p.gOutputs_n p.gOutputs_c, .slice p.gStates_a p.gStates_n p.gStates_c] 26, box b2 [.func (.func 92) #[] #[]] 141, box b1 (prgC p) 28] w17 := S15.trans T9
   refine J.e 3 [.bool (!(List.any p.gInitial_l (fun n => !initB n)))] Tryz.func60 (hR _ _ ?_)
   exact ⟨congrArg Value.bool (by show (!(p.gInitial_l.any (fun n => !initB n))) = validP p; cases hz_ : p.gInitial_l.any (fun n => !initB n) with | true => exact (validP_no (.inr (.inr (.inr (.inr (.inr (.inr (.inr (.inr (.inr (.inr (any_true_all hz_)))))))))))).symm | false => exact (validP_yes (by omega) (any_false_all fk8) (any_false_all fk9) (any_false_all fk10) (any_false_all fk11) (cellsL_none (by omega) fk13) (cellsL_none (by omega) fk15) (cellsL_none (by omega) fk17) (by omega) (mark_end hM (by omega)) (any_false_all hz_)).symm), S17.nil⟩
  exact J.t 5 (L60_1 _ (List.replicate ((p.gCells).toNat) false) 0 w14 (by omega) (by omega) (mark_zero (by omega)) S14 rfl)
 refine J.e 5 [.bool false] Tryz.func60 (hR _ _ ?_)
 exact ⟨congrArg Value.bool (validP_no (.inr (.inr (.inr (.inr (.inr (.inr (.inr (.inr (.inl (by omega))))))))))).symm, S1.nil⟩

end
end Go.Proofs.YtaoolgcddapegaaGreatDoor

