/- Walks of functions of this seat, printed by a program over the engine. Conditions: as each theorem says. -/
import Derived.Test.YtaoolgcddapegaaGreatZqV10
import Derived.Test.YtaoolgcddapegaaGreatZqShelf
set_option linter.unusedSimpArgs false
set_option linter.unusedVariables false
namespace Go.Proofs.YtaoolgcddapegaaGreat
open Go.Eng Go.RowKit Go.Proofs.Tryz
set_option maxRecDepth 20000
set_option maxHeartbeats 20000000
theorem hb66:af prog 66:=fun _ _=>by kernel_rfl

theorem in9_any (n:Int) (w:World):Ret prog 66 #[iv n] w (fun v w'=>v=.bool (decide (-9≤n∧n≤9))∧Sep w [] w'):=by
 refine Ret.st (N:=9) func66 fun R hR S0=>J.c 9 [] [] [] 5 (n≥(-9)) (fun fk1=>?_) fun fk1=>?_
 refine J.e 5 [.bool (decide (n≤9))] func66 (hR _ _ ?_)
 exact⟨congrArg Value.bool (by show(decide (n≤9))=decide (-9≤n∧n≤9);by_cases hz_:n≤9;(rw[(decide_eq_true hz_)];first | exact(decide_eq_true om).symm | exact(decide_eq_false om).symm);(rw[(decide_eq_false hz_)];first | exact(decide_eq_false om).symm | exact(decide_eq_true om).symm)),S0.nil⟩
 refine J.e 5 [.bool false] func66 (hR _ _ ?_)
 exact⟨congrArg Value.bool (decide_eq_false (show ¬ (-9≤n∧n≤9) by omega)).symm,S0.nil⟩

theorem hb30:af prog 30:=fun _ _=>by kernel_rfl

theorem r3unit_any (u:Unt) (w:World):Ret prog 30 #[.agg (bD u)] w (fun v w'=>v=.bool (unB u)∧Sep w [] w'):=by
 refine Ret.st (N:=26) func30 fun R hR S0=>J.nw 2 [] [] [] S0 1 (bu u) 52 fun b1 w1 S1=>J.lb 5 [] [] [] S1 0 rfl 4 (iv u.gM)<|J.c0 0 [] [] [] S1 5 hb66 (in9_any u.gM _) fun w2 S2=>J.b 1 [] [] [] 6 (decide (-9≤u.gM∧u.gM≤9)) (fun fk1=>?_) fun fk1=>?_
 have fb1:=of_decide_eq_true fk1
 refine J.lb 1 [] [] [] S2 0 rfl 8 (iv u.gKg)<|J.c0 0 [] [] [] S2 9 hb66 (in9_any u.gKg _) fun w3 S3=>J.b 2 [] [] [] 11 (decide (-9≤u.gKg∧u.gKg≤9)) (fun fk2=>?_) fun fk2=>?_
 have fb2:=of_decide_eq_true fk2
 refine J.lb 1 [] [] [] S3 0 rfl 13 (iv u.gS)<|J.c0 0 [] [] [] S3 14 hb66 (in9_any u.gS _) fun w4 S4=>J.b 2 [] [] [] 16 (decide (-9≤u.gS∧u.gS≤9)) (fun fk3=>?_) fun fk3=>?_
 have fb3:=of_decide_eq_true fk3
 refine J.lb 1 [] [] [] S4 0 rfl 18 (iv u.gA)<|J.c0 0 [] [] [] S4 19 hb66 (in9_any u.gA _) fun w5 S5=>J.b 2 [] [] [] 21 (decide (-9≤u.gA∧u.gA≤9)) (fun fk4=>?_) fun fk4=>?_
 have fb4:=of_decide_eq_true fk4
 refine J.lb 1 [] [] [] S5 0 rfl 23 (iv u.gK)<|J.c0 0 [] [] [] S5 24 hb66 (in9_any u.gK _) fun w6 S6=>J.e 3 [.bool (decide (-9≤u.gK∧u.gK≤9))] func30 (hR _ _ ?_)
 exact⟨congrArg Value.bool (by show _=decide (unP u.gM u.gKg u.gS u.gA u.gK);cases hz_:decide (-9≤u.gK∧u.gK≤9) with | true=>(have h_:=of_decide_eq_true hz_;exact(decide_eq_true om).symm) | false=>(have h_:=of_decide_eq_false hz_;exact(decide_eq_false om).symm)),S6.nil⟩
 have fb5:=of_decide_eq_false fk4
 refine J.e 6 [.bool false] func30 (hR _ _ ?_)
 exact⟨congrArg Value.bool (decide_eq_false (show ¬ (unP u.gM u.gKg u.gS u.gA u.gK) by omega)).symm,S5.nil⟩
 have fb6:=of_decide_eq_false fk3
 refine J.e 11 [.bool false] func30 (hR _ _ ?_)
 exact⟨congrArg Value.bool (decide_eq_false (show ¬ (unP u.gM u.gKg u.gS u.gA u.gK) by omega)).symm,S4.nil⟩
 have fb7:=of_decide_eq_false fk2
 refine J.e 16 [.bool false] func30 (hR _ _ ?_)
 exact⟨congrArg Value.bool (decide_eq_false (show ¬ (unP u.gM u.gKg u.gS u.gA u.gK) by omega)).symm,S3.nil⟩
 have fb8:=of_decide_eq_false fk1
 refine J.e 21 [.bool false] func30 (hR _ _ ?_)
 exact⟨congrArg Value.bool (decide_eq_false (show ¬ (unP u.gM u.gKg u.gS u.gA u.gK) by omega)).symm,S2.nil⟩

theorem hb47:af prog 47:=fun _ _=>by kernel_rfl

theorem fxvalid_any (t:Fxd) (w:World) (ht:cA w t):Ret prog 47 #[.agg (aI t)] w (fun v w'=>v=.bool (bF t)∧Sep w [] w'):=by
 refine Ret.st (N:=51) func47 fun R hR S0=>?_
 obtain ⟨q1,q2,q3,q4,q5,q6,q7,q8,q9,_⟩:=id ht
 refine J.nw 2 [] [] [] S0 1 (aN t) 54 fun b1 w1 S1=>J.lb 5 [] [] [] S1 0 rfl 4 (iv t.aK)<|J.c 2 [] [] [] 6 (t.aK=8) (fun fk1=>?_) fun fk1=>?_
 refine J.lb 11 [] [(16,.bool true)] [] S1 0 rfl 18 (iv t.aT)<|J.c 3 [] [] [] 21 (t.aT≥1) (fun fk2=>?_) fun fk2=>?_
 refine J.lb 1 [] [] [] S1 0 rfl 23 (iv t.aT)<|J.c 3 [] [] [] 26 (t.aT≤1048576) (fun fk3=>?_) fun fk3=>?_
 refine J.lb 1 [] [] [] S1 0 rfl 28 (iv t.aa)<|J.c 3 [] [] [] 31 (t.aa≥1) (fun fk4=>?_) fun fk4=>?_
 refine J.lb 1 [] [] [] S1 0 rfl 33 (iv t.aa)<|J.c 3 [] [] [] 36 (t.aa≤1048576) (fun fk5=>?_) fun fk5=>?_
 refine J.lb 1 [] [] [] S1 0 rfl 38 (iv t.aF)<|J.c 3 [] [] [] 41 (t.aF≥(-1073741824)) (fun fk6=>?_) fun fk6=>?_
 refine J.lb 1 [] [] [] S1 0 rfl 43 (iv t.aF)<|J.c 3 [] [] [] 46 (t.aF≤1073741824) (fun fk7=>?_) fun fk7=>?_
 refine J.lb 1 [] [] [] S1 0 rfl 48 (.agg #[iv t.ah,iv t.ae,iv t.ag,iv t.aj,iv t.ai])<|J.c0 0 [] [] [] S1 49 hb82 (dM (⟨t.ah,t.ae,t.ag,t.aj,t.ai⟩:Unt) _) fun w2 S2=>J.e 3 [.bool (unB (⟨t.ah,t.ae,t.ag,t.aj,t.ai⟩:Unt))] func47 (hR _ _ ?_)
 exact⟨congrArg Value.bool (by show _=decide (dn t.aK t.aT t.aF t.aa t.ah t.ae t.ag t.aj t.ai);cases hz_:unB (⟨t.ah,t.ae,t.ag,t.aj,t.ai⟩:Unt) with | true=>(have h_:=bE.1 hz_;try dsimp only at h_;exact(decide_eq_true om).symm) | false=>(have h_:=mt bE.2 (by rw[hz_];decide);try dsimp only at h_;exact(decide_eq_false om).symm)),S2.nil⟩
 refine J.e 6 [.bool false] func47 (hR _ _ ?_)
 exact⟨congrArg Value.bool (decide_eq_false (show ¬ (dn t.aK t.aT t.aF t.aa t.ah t.ae t.ag t.aj t.ai) by omega)).symm,S1.nil⟩
 refine J.e 11 [.bool false] func47 (hR _ _ ?_)
 exact⟨congrArg Value.bool (decide_eq_false (show ¬ (dn t.aK t.aT t.aF t.aa t.ah t.ae t.ag t.aj t.ai) by omega)).symm,S1.nil⟩
 refine J.e 16 [.bool false] func47 (hR _ _ ?_)
 exact⟨congrArg Value.bool (decide_eq_false (show ¬ (dn t.aK t.aT t.aF t.aa t.ah t.ae t.ag t.aj t.ai) by omega)).symm,S1.nil⟩
 refine J.e 21 [.bool false] func47 (hR _ _ ?_)
 exact⟨congrArg Value.bool (decide_eq_false (show ¬ (dn t.aK t.aT t.aF t.aa t.ah t.ae t.ag t.aj t.ai) by omega)).symm,S1.nil⟩
 refine J.e 26 [.bool false] func47 (hR _ _ ?_)
 exact⟨congrArg Value.bool (decide_eq_false (show ¬ (dn t.aK t.aT t.aF t.aa t.ah t.ae t.ag t.aj t.ai) by omega)).symm,S1.nil⟩
 refine J.e 31 [.bool false] func47 (hR _ _ ?_)
 exact⟨congrArg Value.bool (decide_eq_false (show ¬ (dn t.aK t.aT t.aF t.aa t.ah t.ae t.ag t.aj t.ai) by omega)).symm,S1.nil⟩
 refine J.lb 1 [] [] [] S1 0 rfl 8 (iv t.aK)<|J.c 3 [] [] [] 11 (t.aK=16) (fun fk8=>?_) fun fk8=>?_
 refine J.lb 6 [] [(16,.bool true)] [] S1 0 rfl 18 (iv t.aT)<|J.c 3 [] [] [] 21 (t.aT≥1) (fun fk9=>?_) fun fk9=>?_
 refine J.lb 1 [] [] [] S1 0 rfl 23 (iv t.aT)<|J.c 3 [] [] [] 26 (t.aT≤1048576) (fun fk10=>?_) fun fk10=>?_
 refine J.lb 1 [] [] [] S1 0 rfl 28 (iv t.aa)<|J.c 3 [] [] [] 31 (t.aa≥1) (fun fk11=>?_) fun fk11=>?_
 refine J.lb 1 [] [] [] S1 0 rfl 33 (iv t.aa)<|J.c 3 [] [] [] 36 (t.aa≤1048576) (fun fk12=>?_) fun fk12=>?_
 refine J.lb 1 [] [] [] S1 0 rfl 38 (iv t.aF)<|J.c 3 [] [] [] 41 (t.aF≥(-1073741824)) (fun fk13=>?_) fun fk13=>?_
 refine J.lb 1 [] [] [] S1 0 rfl 43 (iv t.aF)<|J.c 3 [] [] [] 46 (t.aF≤1073741824) (fun fk14=>?_) fun fk14=>?_
 refine J.lb 1 [] [] [] S1 0 rfl 48 (.agg #[iv t.ah,iv t.ae,iv t.ag,iv t.aj,iv t.ai])<|J.c0 0 [] [] [] S1 49 hb82 (dM (⟨t.ah,t.ae,t.ag,t.aj,t.ai⟩:Unt) _) fun w3 S3=>J.e 3 [.bool (unB (⟨t.ah,t.ae,t.ag,t.aj,t.ai⟩:Unt))] func47 (hR _ _ ?_)
 exact⟨congrArg Value.bool (by show _=decide (dn t.aK t.aT t.aF t.aa t.ah t.ae t.ag t.aj t.ai);cases hz_:unB (⟨t.ah,t.ae,t.ag,t.aj,t.ai⟩:Unt) with | true=>(have h_:=bE.1 hz_;try dsimp only at h_;exact(decide_eq_true om).symm) | false=>(have h_:=mt bE.2 (by rw[hz_];decide);try dsimp only at h_;exact(decide_eq_false om).symm)),S3.nil⟩
 refine J.e 6 [.bool false] func47 (hR _ _ ?_)
 exact⟨congrArg Value.bool (decide_eq_false (show ¬ (dn t.aK t.aT t.aF t.aa t.ah t.ae t.ag t.aj t.ai) by omega)).symm,S1.nil⟩
 refine J.e 11 [.bool false] func47 (hR _ _ ?_)
 exact⟨congrArg Value.bool (decide_eq_false (show ¬ (dn t.aK t.aT t.aF t.aa t.ah t.ae t.ag t.aj t.ai) by omega)).symm,S1.nil⟩
 refine J.e 16 [.bool false] func47 (hR _ _ ?_)
 exact⟨congrArg Value.bool (decide_eq_false (show ¬ (dn t.aK t.aT t.aF t.aa t.ah t.ae t.ag t.aj t.ai) by omega)).symm,S1.nil⟩
 refine J.e 21 [.bool false] func47 (hR _ _ ?_)
 exact⟨congrArg Value.bool (decide_eq_false (show ¬ (dn t.aK t.aT t.aF t.aa t.ah t.ae t.ag t.aj t.ai) by omega)).symm,S1.nil⟩
 refine J.e 26 [.bool false] func47 (hR _ _ ?_)
 exact⟨congrArg Value.bool (decide_eq_false (show ¬ (dn t.aK t.aT t.aF t.aa t.ah t.ae t.ag t.aj t.ai) by omega)).symm,S1.nil⟩
 refine J.e 31 [.bool false] func47 (hR _ _ ?_)
 exact⟨congrArg Value.bool (decide_eq_false (show ¬ (dn t.aK t.aT t.aF t.aa t.ah t.ae t.ag t.aj t.ai) by omega)).symm,S1.nil⟩
 refine J.lb 1 [] [] [] S1 0 rfl 13 (iv t.aK)<|J.c 3 [] [] [] 16 (t.aK=32) (fun fk15=>?_) fun fk15=>?_
 refine J.lb 1 [] [] [] S1 0 rfl 18 (iv t.aT)<|J.c 3 [] [] [] 21 (t.aT≥1) (fun fk16=>?_) fun fk16=>?_
 refine J.lb 1 [] [] [] S1 0 rfl 23 (iv t.aT)<|J.c 3 [] [] [] 26 (t.aT≤1048576) (fun fk17=>?_) fun fk17=>?_
 refine J.lb 1 [] [] [] S1 0 rfl 28 (iv t.aa)<|J.c 3 [] [] [] 31 (t.aa≥1) (fun fk18=>?_) fun fk18=>?_
 refine J.lb 1 [] [] [] S1 0 rfl 33 (iv t.aa)<|J.c 3 [] [] [] 36 (t.aa≤1048576) (fun fk19=>?_) fun fk19=>?_
 refine J.lb 1 [] [] [] S1 0 rfl 38 (iv t.aF)<|J.c 3 [] [] [] 41 (t.aF≥(-1073741824)) (fun fk20=>?_) fun fk20=>?_
 refine J.lb 1 [] [] [] S1 0 rfl 43 (iv t.aF)<|J.c 3 [] [] [] 46 (t.aF≤1073741824) (fun fk21=>?_) fun fk21=>?_
 refine J.lb 1 [] [] [] S1 0 rfl 48 (.agg #[iv t.ah,iv t.ae,iv t.ag,iv t.aj,iv t.ai])<|J.c0 0 [] [] [] S1 49 hb82 (dM (⟨t.ah,t.ae,t.ag,t.aj,t.ai⟩:Unt) _) fun w4 S4=>J.e 3 [.bool (unB (⟨t.ah,t.ae,t.ag,t.aj,t.ai⟩:Unt))] func47 (hR _ _ ?_)
 exact⟨congrArg Value.bool (by show _=decide (dn t.aK t.aT t.aF t.aa t.ah t.ae t.ag t.aj t.ai);cases hz_:unB (⟨t.ah,t.ae,t.ag,t.aj,t.ai⟩:Unt) with | true=>(have h_:=bE.1 hz_;try dsimp only at h_;exact(decide_eq_true om).symm) | false=>(have h_:=mt bE.2 (by rw[hz_];decide);try dsimp only at h_;exact(decide_eq_false om).symm)),S4.nil⟩
 refine J.e 6 [.bool false] func47 (hR _ _ ?_)
 exact⟨congrArg Value.bool (decide_eq_false (show ¬ (dn t.aK t.aT t.aF t.aa t.ah t.ae t.ag t.aj t.ai) by omega)).symm,S1.nil⟩
 refine J.e 11 [.bool false] func47 (hR _ _ ?_)
 exact⟨congrArg Value.bool (decide_eq_false (show ¬ (dn t.aK t.aT t.aF t.aa t.ah t.ae t.ag t.aj t.ai) by omega)).symm,S1.nil⟩
 refine J.e 16 [.bool false] func47 (hR _ _ ?_)
 exact⟨congrArg Value.bool (decide_eq_false (show ¬ (dn t.aK t.aT t.aF t.aa t.ah t.ae t.ag t.aj t.ai) by omega)).symm,S1.nil⟩
 refine J.e 21 [.bool false] func47 (hR _ _ ?_)
 exact⟨congrArg Value.bool (decide_eq_false (show ¬ (dn t.aK t.aT t.aF t.aa t.ah t.ae t.ag t.aj t.ai) by omega)).symm,S1.nil⟩
 refine J.e 26 [.bool false] func47 (hR _ _ ?_)
 exact⟨congrArg Value.bool (decide_eq_false (show ¬ (dn t.aK t.aT t.aF t.aa t.ah t.ae t.ag t.aj t.ai) by omega)).symm,S1.nil⟩
 refine J.e 31 [.bool false] func47 (hR _ _ ?_)
 exact⟨congrArg Value.bool (decide_eq_false (show ¬ (dn t.aK t.aT t.aF t.aa t.ah t.ae t.ag t.aj t.ai) by omega)).symm,S1.nil⟩
 refine J.e 36 [.bool false] func47 (hR _ _ ?_)
 exact⟨congrArg Value.bool (decide_eq_false (show ¬ (dn t.aK t.aT t.aF t.aa t.ah t.ae t.ag t.aj t.ai) by omega)).symm,S1.nil⟩

theorem hb16:af prog 16:=fun _ _=>by kernel_rfl

theorem rfxvalid_any (t:Fxd) (w:World) (ht:cA w t):Ret prog 16 #[.agg (aI t)] w (fun v w'=>v=.bool (bF t)∧Sep w [] w'):=by
 refine Ret.st (N:=49) func16 fun R hR S0=>?_
 obtain ⟨q1,q2,q3,q4,q5,q6,q7,q8,q9,_⟩:=id ht
 refine J.nw 2 [] [] [] S0 1 (aN t) 54 fun b1 w1 S1=>J.lb 6 [] [] [] S1 0 rfl 4 (iv t.aK)<|J.cn 2 [] [] [] 6 (t.aK=8) (fun fk1=>?_) fun fk1=>?_
 refine J.lb 15 [false] [] [] S1 0 rfl 17 (iv t.aT)<|J.c 2 [] [] [] 19 (t.aT≥1) (fun fk2=>?_) fun fk2=>?_
 refine J.lb 1 [] [] [] S1 0 rfl 21 (iv t.aT)<|J.c 3 [] [] [] 24 (t.aT≤1048576) (fun fk3=>?_) fun fk3=>?_
 refine J.lb 1 [] [] [] S1 0 rfl 26 (iv t.aa)<|J.c 3 [] [] [] 29 (t.aa≥1) (fun fk4=>?_) fun fk4=>?_
 refine J.lb 1 [] [] [] S1 0 rfl 31 (iv t.aa)<|J.c 3 [] [] [] 34 (t.aa≤1048576) (fun fk5=>?_) fun fk5=>?_
 refine J.lb 1 [] [] [] S1 0 rfl 36 (iv t.aF)<|J.c 3 [] [] [] 39 (t.aF≥(-1073741824)) (fun fk6=>?_) fun fk6=>?_
 refine J.lb 1 [] [] [] S1 0 rfl 41 (iv t.aF)<|J.c 3 [] [] [] 44 (t.aF≤1073741824) (fun fk7=>?_) fun fk7=>?_
 refine J.lb 1 [] [] [] S1 0 rfl 46 (.agg #[iv t.ah,iv t.ae,iv t.ag,iv t.aj,iv t.ai])<|J.c0 0 [] [] [] S1 47 hb30 (r3unit_any (⟨t.ah,t.ae,t.ag,t.aj,t.ai⟩:Unt) _) fun w2 S2=>J.e 3 [.bool (unB (⟨t.ah,t.ae,t.ag,t.aj,t.ai⟩:Unt))] func16 (hR _ _ ?_)
 exact⟨congrArg Value.bool (by show _=decide (dn t.aK t.aT t.aF t.aa t.ah t.ae t.ag t.aj t.ai);cases hz_:unB (⟨t.ah,t.ae,t.ag,t.aj,t.ai⟩:Unt) with | true=>(have h_:=bE.1 hz_;try dsimp only at h_;exact(decide_eq_true om).symm) | false=>(have h_:=mt bE.2 (by rw[hz_];decide);try dsimp only at h_;exact(decide_eq_false om).symm)),S2.nil⟩
 refine J.e 6 [.bool false] func16 (hR _ _ ?_)
 exact⟨congrArg Value.bool (decide_eq_false (show ¬ (dn t.aK t.aT t.aF t.aa t.ah t.ae t.ag t.aj t.ai) by omega)).symm,S1.nil⟩
 refine J.e 11 [.bool false] func16 (hR _ _ ?_)
 exact⟨congrArg Value.bool (decide_eq_false (show ¬ (dn t.aK t.aT t.aF t.aa t.ah t.ae t.ag t.aj t.ai) by omega)).symm,S1.nil⟩
 refine J.e 16 [.bool false] func16 (hR _ _ ?_)
 exact⟨congrArg Value.bool (decide_eq_false (show ¬ (dn t.aK t.aT t.aF t.aa t.ah t.ae t.ag t.aj t.ai) by omega)).symm,S1.nil⟩
 refine J.e 21 [.bool false] func16 (hR _ _ ?_)
 exact⟨congrArg Value.bool (decide_eq_false (show ¬ (dn t.aK t.aT t.aF t.aa t.ah t.ae t.ag t.aj t.ai) by omega)).symm,S1.nil⟩
 refine J.e 26 [.bool false] func16 (hR _ _ ?_)
 exact⟨congrArg Value.bool (decide_eq_false (show ¬ (dn t.aK t.aT t.aF t.aa t.ah t.ae t.ag t.aj t.ai) by omega)).symm,S1.nil⟩
 refine J.e 31 [.bool false] func16 (hR _ _ ?_)
 exact⟨congrArg Value.bool (decide_eq_false (show ¬ (dn t.aK t.aT t.aF t.aa t.ah t.ae t.ag t.aj t.ai) by omega)).symm,S1.nil⟩
 refine J.lb 1 [] [] [] S1 0 rfl 8 (iv t.aK)<|J.cn 3 [] [] [] 11 (t.aK=16) (fun fk8=>?_) fun fk8=>?_
 refine J.lb 10 [false] [] [] S1 0 rfl 17 (iv t.aT)<|J.c 2 [] [] [] 19 (t.aT≥1) (fun fk9=>?_) fun fk9=>?_
 refine J.lb 1 [] [] [] S1 0 rfl 21 (iv t.aT)<|J.c 3 [] [] [] 24 (t.aT≤1048576) (fun fk10=>?_) fun fk10=>?_
 refine J.lb 1 [] [] [] S1 0 rfl 26 (iv t.aa)<|J.c 3 [] [] [] 29 (t.aa≥1) (fun fk11=>?_) fun fk11=>?_
 refine J.lb 1 [] [] [] S1 0 rfl 31 (iv t.aa)<|J.c 3 [] [] [] 34 (t.aa≤1048576) (fun fk12=>?_) fun fk12=>?_
 refine J.lb 1 [] [] [] S1 0 rfl 36 (iv t.aF)<|J.c 3 [] [] [] 39 (t.aF≥(-1073741824)) (fun fk13=>?_) fun fk13=>?_
 refine J.lb 1 [] [] [] S1 0 rfl 41 (iv t.aF)<|J.c 3 [] [] [] 44 (t.aF≤1073741824) (fun fk14=>?_) fun fk14=>?_
 refine J.lb 1 [] [] [] S1 0 rfl 46 (.agg #[iv t.ah,iv t.ae,iv t.ag,iv t.aj,iv t.ai])<|J.c0 0 [] [] [] S1 47 hb30 (r3unit_any (⟨t.ah,t.ae,t.ag,t.aj,t.ai⟩:Unt) _) fun w3 S3=>J.e 3 [.bool (unB (⟨t.ah,t.ae,t.ag,t.aj,t.ai⟩:Unt))] func16 (hR _ _ ?_)
 exact⟨congrArg Value.bool (by show _=decide (dn t.aK t.aT t.aF t.aa t.ah t.ae t.ag t.aj t.ai);cases hz_:unB (⟨t.ah,t.ae,t.ag,t.aj,t.ai⟩:Unt) with | true=>(have h_:=bE.1 hz_;try dsimp only at h_;exact(decide_eq_true om).symm) | false=>(have h_:=mt bE.2 (by rw[hz_];decide);try dsimp only at h_;exact(decide_eq_false om).symm)),S3.nil⟩
 refine J.e 6 [.bool false] func16 (hR _ _ ?_)
 exact⟨congrArg Value.bool (decide_eq_false (show ¬ (dn t.aK t.aT t.aF t.aa t.ah t.ae t.ag t.aj t.ai) by omega)).symm,S1.nil⟩
 refine J.e 11 [.bool false] func16 (hR _ _ ?_)
 exact⟨congrArg Value.bool (decide_eq_false (show ¬ (dn t.aK t.aT t.aF t.aa t.ah t.ae t.ag t.aj t.ai) by omega)).symm,S1.nil⟩
 refine J.e 16 [.bool false] func16 (hR _ _ ?_)
 exact⟨congrArg Value.bool (decide_eq_false (show ¬ (dn t.aK t.aT t.aF t.aa t.ah t.ae t.ag t.aj t.ai) by omega)).symm,S1.nil⟩
 refine J.e 21 [.bool false] func16 (hR _ _ ?_)
 exact⟨congrArg Value.bool (decide_eq_false (show ¬ (dn t.aK t.aT t.aF t.aa t.ah t.ae t.ag t.aj t.ai) by omega)).symm,S1.nil⟩
 refine J.e 26 [.bool false] func16 (hR _ _ ?_)
 exact⟨congrArg Value.bool (decide_eq_false (show ¬ (dn t.aK t.aT t.aF t.aa t.ah t.ae t.ag t.aj t.ai) by omega)).symm,S1.nil⟩
 refine J.e 31 [.bool false] func16 (hR _ _ ?_)
 exact⟨congrArg Value.bool (decide_eq_false (show ¬ (dn t.aK t.aT t.aF t.aa t.ah t.ae t.ag t.aj t.ai) by omega)).symm,S1.nil⟩
 refine J.lb 1 [] [] [] S1 0 rfl 13 (iv t.aK)<|J.cn 3 [] [] [] 15 (t.aK=32) (fun fk15=>?_) fun fk15=>?_
 refine J.lb 5 [false] [] [] S1 0 rfl 17 (iv t.aT)<|J.c 2 [] [] [] 19 (t.aT≥1) (fun fk16=>?_) fun fk16=>?_
 refine J.lb 1 [] [] [] S1 0 rfl 21 (iv t.aT)<|J.c 3 [] [] [] 24 (t.aT≤1048576) (fun fk17=>?_) fun fk17=>?_
 refine J.lb 1 [] [] [] S1 0 rfl 26 (iv t.aa)<|J.c 3 [] [] [] 29 (t.aa≥1) (fun fk18=>?_) fun fk18=>?_
 refine J.lb 1 [] [] [] S1 0 rfl 31 (iv t.aa)<|J.c 3 [] [] [] 34 (t.aa≤1048576) (fun fk19=>?_) fun fk19=>?_
 refine J.lb 1 [] [] [] S1 0 rfl 36 (iv t.aF)<|J.c 3 [] [] [] 39 (t.aF≥(-1073741824)) (fun fk20=>?_) fun fk20=>?_
 refine J.lb 1 [] [] [] S1 0 rfl 41 (iv t.aF)<|J.c 3 [] [] [] 44 (t.aF≤1073741824) (fun fk21=>?_) fun fk21=>?_
 refine J.lb 1 [] [] [] S1 0 rfl 46 (.agg #[iv t.ah,iv t.ae,iv t.ag,iv t.aj,iv t.ai])<|J.c0 0 [] [] [] S1 47 hb30 (r3unit_any (⟨t.ah,t.ae,t.ag,t.aj,t.ai⟩:Unt) _) fun w4 S4=>J.e 3 [.bool (unB (⟨t.ah,t.ae,t.ag,t.aj,t.ai⟩:Unt))] func16 (hR _ _ ?_)
 exact⟨congrArg Value.bool (by show _=decide (dn t.aK t.aT t.aF t.aa t.ah t.ae t.ag t.aj t.ai);cases hz_:unB (⟨t.ah,t.ae,t.ag,t.aj,t.ai⟩:Unt) with | true=>(have h_:=bE.1 hz_;try dsimp only at h_;exact(decide_eq_true om).symm) | false=>(have h_:=mt bE.2 (by rw[hz_];decide);try dsimp only at h_;exact(decide_eq_false om).symm)),S4.nil⟩
 refine J.e 6 [.bool false] func16 (hR _ _ ?_)
 exact⟨congrArg Value.bool (decide_eq_false (show ¬ (dn t.aK t.aT t.aF t.aa t.ah t.ae t.ag t.aj t.ai) by omega)).symm,S1.nil⟩
 refine J.e 11 [.bool false] func16 (hR _ _ ?_)
 exact⟨congrArg Value.bool (decide_eq_false (show ¬ (dn t.aK t.aT t.aF t.aa t.ah t.ae t.ag t.aj t.ai) by omega)).symm,S1.nil⟩
 refine J.e 16 [.bool false] func16 (hR _ _ ?_)
 exact⟨congrArg Value.bool (decide_eq_false (show ¬ (dn t.aK t.aT t.aF t.aa t.ah t.ae t.ag t.aj t.ai) by omega)).symm,S1.nil⟩
 refine J.e 21 [.bool false] func16 (hR _ _ ?_)
 exact⟨congrArg Value.bool (decide_eq_false (show ¬ (dn t.aK t.aT t.aF t.aa t.ah t.ae t.ag t.aj t.ai) by omega)).symm,S1.nil⟩
 refine J.e 26 [.bool false] func16 (hR _ _ ?_)
 exact⟨congrArg Value.bool (decide_eq_false (show ¬ (dn t.aK t.aT t.aF t.aa t.ah t.ae t.ag t.aj t.ai) by omega)).symm,S1.nil⟩
 refine J.e 31 [.bool false] func16 (hR _ _ ?_)
 exact⟨congrArg Value.bool (decide_eq_false (show ¬ (dn t.aK t.aT t.aF t.aa t.ah t.ae t.ag t.aj t.ai) by omega)).symm,S1.nil⟩
 refine J.e 5 [.bool false] func16 (hR _ _ ?_)
 exact⟨congrArg Value.bool (decide_eq_false (show ¬ (dn t.aK t.aT t.aF t.aa t.ah t.ae t.ag t.aj t.ai) by omega)).symm,S1.nil⟩

end Go.Proofs.YtaoolgcddapegaaGreat

namespace Go.Proofs.YtaoolgcddapegaaGreat
noncomputable section
open Go.Eng Go.RowKit Go.Proofs.Tryz
set_option maxRecDepth 20000
set_option maxHeartbeats 20000000
structure Ins where
  gOp:Int
  gA:Int
  gB:Int
  gC:Int
  gK:Int
def insE (x:Ins):List Value:=[iv x.gOp,iv x.gA,iv x.gB,iv x.gC,iv x.gK]
def insQ (w:World) (x:Ins):Prop:=((-9223372036854775808)≤x.gOp∧x.gOp≤9223372036854775807)∧((-9223372036854775808)≤x.gA∧x.gA≤9223372036854775807)∧((-9223372036854775808)≤x.gB∧x.gB≤9223372036854775807)∧((-9223372036854775808)≤x.gC∧x.gC≤9223372036854775807)∧((-9223372036854775808)≤x.gK∧x.gK≤9223372036854775807)∧True
theorem dF {w0 w:World} {L:List Eng.Claim} {x:Ins} (h:insQ w0 x) (S:Sep w0 L w):insQ w x:=by
  obtain ⟨hgOp,hgA,hgB,hgC,hgK,_⟩:=h
  exact⟨hgOp,hgA,hgB,hgC,hgK,trivial⟩
abbrev aZ (x:Ins):List Value:=[iv x.gOp,iv x.gA,iv x.gB,iv x.gC,iv x.gK]
abbrev dP (x:Ins):Array Value:=#[iv x.gOp,iv x.gA,iv x.gB,iv x.gC,iv x.gK]
structure Rwo where
  gname:ByteArray
  gfields:ByteArray
  gcost:Int
def rwoE (x:Rwo):List Value:=[.string x.gname,.string x.gfields,iv x.gcost]
abbrev rwoC (x:Rwo):List Value:=[.string x.gname,.string x.gfields,iv x.gcost]
abbrev rwoA (x:Rwo):Array Value:=#[.string x.gname,.string x.gfields,iv x.gcost]
def cg (op:Int):ByteArray:=if op≤3 then ⟨#[65,75]⟩ else if op=4∨op=18 then ⟨#[65,66]⟩ else if op=9∨op=10∨op=20∨op=22 then ⟨#[65,66,75]⟩ else if op=11∨op=12∨op=15∨op=16∨op=17 then ⟨#[65,66,67]⟩ else ⟨#[65,66,67,75]⟩
def hasF (s:ByteArray) (c:Int):Bool:=(ls s).any fun x=>(x.toNat:Int)==c
abbrev useC (op:Int):Prop:=5≤op∧op≤8∨11≤op∧op≤17∨op=19∨op=21
abbrev useK (op:Int):Prop:=op≤3∨5≤op∧op≤10∨op=13∨op=14∨19≤op
abbrev ec (op:Int):Prop:=5≤op∧op≤10∨op=13∨op=14
abbrev kP (op k:Int):Prop :=
  (op=1∧ -1099511627776≤k∧k≤1099511627776)∨(op=19∧0≤k∧k≤15) ∨
  (ec op∧0≤k∧k<2097152∧(k/128%128=0∨(op≠9∧op≠10))∧(k%128=0∨(op≠13∧op≠14))) ∨
  (op=22∧0≤k∧k≤32767∧k%32≤20)∨(op≠1∧op≠19∧¬ ec op∧op≠22∧0≤k∧k≤32767)
abbrev cU (op a b c k:Int):Prop:=(1≤op∧op≤22)∧(0≤a∧a≤15)∧(0≤b∧b≤15)∧(0≤c∧c≤15)∧(4≤op∨b=0)∧(useC op∨c=0)∧(useK op∨k=0)∧kP op k
def kB (op k:Int):Bool:=decide (kP op k)
def formI (op a b c k:Int):Bool:=decide (cU op a b c k)
def formB (i:Ins):Bool:=formI i.gOp i.gA i.gB i.gC i.gK
theorem kB_iff {op k:Int}:kB op k=true↔kP op k:=by unfold kB;exact decide_eq_true_iff
theorem formI_iff {op a b c k:Int}:formI op a b c k=true↔cU op a b c k:=by unfold formI;exact decide_eq_true_iff
theorem formB_iff {i:Ins}:formB i=true↔cU i.gOp i.gA i.gB i.gC i.gK:=formI_iff
theorem eM {op:Int} (h:1≤op∧op≤22):op=1∨op=2∨op=3∨op=4∨op=5∨op=6∨op=7∨op=8∨op=9∨op=10∨op=11∨op=12∨op=13∨op=14∨op=15∨op=16∨op=17∨op=18∨op=19∨op=20∨op=21∨op=22:=by omega
theorem has_B {op:Int} (h:1≤op∧op≤22):hasF (cg op) 66=true↔4≤op:=by
  rcases eM h with rfl|rfl|rfl|rfl|rfl|rfl|rfl|rfl|rfl|rfl|rfl|rfl|rfl|rfl|rfl|rfl|rfl|rfl|rfl|rfl|rfl|rfl<;>decide
theorem has_C {op:Int} (h:1≤op∧op≤22):hasF (cg op) 67=true↔useC op:=by
  rcases eM h with rfl|rfl|rfl|rfl|rfl|rfl|rfl|rfl|rfl|rfl|rfl|rfl|rfl|rfl|rfl|rfl|rfl|rfl|rfl|rfl|rfl|rfl<;>decide
theorem has_K {op:Int} (h:1≤op∧op≤22):hasF (cg op) 75=true↔useK op:=by
  rcases eM h with rfl|rfl|rfl|rfl|rfl|rfl|rfl|rfl|rfl|rfl|rfl|rfl|rfl|rfl|rfl|rfl|rfl|rfl|rfl|rfl|rfl|rfl<;>decide
theorem fields_size {op:Int}:2≤(cg op).size∧(cg op).size≤4:=by
  unfold cg;repeat' split
  all_goals exact⟨dE,dE⟩

abbrev eb:Rwo:=⟨ByteArray.empty,ByteArray.empty,0⟩
def bQ:List Rwo:=[⟨ByteArray.empty,ByteArray.empty,0⟩,⟨⟨#[99,111,110,115,116]⟩,⟨#[65,75]⟩,1⟩,⟨⟨#[108,111,97,100]⟩,⟨#[65,75]⟩,2⟩,⟨⟨#[115,116,111,114,101]⟩,⟨#[65,75]⟩,2⟩,⟨⟨#[109,111,118,101]⟩,⟨#[65,66]⟩,1⟩,⟨⟨#[97,100,100]⟩,⟨#[65,66,67,75]⟩,3⟩,⟨⟨#[115,117,98]⟩,⟨#[65,66,67,75]⟩,3⟩,⟨⟨#[109,117,108]⟩,⟨#[65,66,67,75]⟩,4⟩,⟨⟨#[100,105,118]⟩,⟨#[65,66,67,75]⟩,12⟩,⟨⟨#[110,101,103]⟩,⟨#[65,66,75]⟩,3⟩,⟨⟨#[99,111,110,118,101,114,116]⟩,⟨#[65,66,75]⟩,4⟩,⟨⟨#[109,105,110]⟩,⟨#[65,66,67]⟩,1⟩,⟨⟨#[109,97,120]⟩,⟨#[65,66,67]⟩,1⟩,⟨⟨#[108,101,115,115]⟩,⟨#[65,66,67,75]⟩,3⟩,⟨⟨#[101,113,117,97,108]⟩,⟨#[65,66,67,75]⟩,4⟩,⟨⟨#[98,101,108,111,119]⟩,⟨#[65,66,67]⟩,1⟩,⟨⟨#[97,110,100]⟩,⟨#[65,66,67]⟩,1⟩,⟨⟨#[111,114]⟩,⟨#[65,66,67]⟩,1⟩,⟨⟨#[110,111,116]⟩,⟨#[65,66]⟩,1⟩,⟨⟨#[115,101,108,101,99,116]⟩,⟨#[65,66,67,75]⟩,2⟩,⟨⟨#[99,117,114,118,101]⟩,⟨#[65,66,75]⟩,20⟩,⟨⟨#[109,97,112]⟩,⟨#[65,66,67,75]⟩,40⟩,⟨⟨#[108,97,103]⟩,⟨#[65,66,75]⟩,8⟩]
theorem rows_len:bQ.length=23:=rfl
theorem hb124:af prog 124:=fun _ _=>by kernel_rfl
def idxB (s:ByteArray) (c:Int):Int:=Lib.indexByte s.data.toList c.toNat.toUInt8
theorem indexbyte_any (s:ByteArray) (c:Int) (w:World):Ret prog 124 #[.string s,.int .u8 c] w (fun v w'=>v=iv (idxB s c)∧Sep w [] w') :=
  Ret.of_calls (Tryz.strings_IndexByte s c w) fun w' hw=>⟨rfl,by subst hw;exact .refl _⟩
theorem hb125:af prog 125:=fun _ _=>by kernel_rfl
def sufB (s p:ByteArray):Bool:=Lib.hasSuffix s.data.toList p.data.toList
theorem hassuffix_any (s p:ByteArray) (w:World) (hs:s.size≤9223372036854775807):Ret prog 125 #[.string s,.string p] w (fun v w'=>v=.bool (sufB s p)∧Sep w [] w') :=
  Ret.of_calls (Tryz.strings_HasSuffix s p w hs) fun w' hw=>⟨rfl,by subst hw;exact .refl _⟩
theorem idx_A {op:Int} (h:1≤op∧op≤22):idxB (bQ.getD op.toNat eb).gfields 65<0↔¬ (1≤op):=by
  rcases eM h with rfl|rfl|rfl|rfl|rfl|rfl|rfl|rfl|rfl|rfl|rfl|rfl|rfl|rfl|rfl|rfl|rfl|rfl|rfl|rfl|rfl|rfl<;>decide
theorem idx_B {op:Int} (h:1≤op∧op≤22):idxB (bQ.getD op.toNat eb).gfields 66<0↔¬ (4≤op):=by
  rcases eM h with rfl|rfl|rfl|rfl|rfl|rfl|rfl|rfl|rfl|rfl|rfl|rfl|rfl|rfl|rfl|rfl|rfl|rfl|rfl|rfl|rfl|rfl<;>decide
theorem idx_C {op:Int} (h:1≤op∧op≤22):idxB (bQ.getD op.toNat eb).gfields 67<0↔¬ (useC op):=by
  rcases eM h with rfl|rfl|rfl|rfl|rfl|rfl|rfl|rfl|rfl|rfl|rfl|rfl|rfl|rfl|rfl|rfl|rfl|rfl|rfl|rfl|rfl|rfl<;>decide
theorem suf_K {op:Int} (h:1≤op∧op≤22):sufB (bQ.getD op.toNat eb).gfields ⟨#[75]⟩=true↔useK op:=by
  rcases eM h with rfl|rfl|rfl|rfl|rfl|rfl|rfl|rfl|rfl|rfl|rfl|rfl|rfl|rfl|rfl|rfl|rfl|rfl|rfl|rfl|rfl|rfl<;>decide
theorem rows_size {op:Int} (h:1≤op∧op≤22):(bQ.getD op.toNat eb).gname.size≤7∧2≤(bQ.getD op.toNat eb).gfields.size∧(bQ.getD op.toNat eb).gfields.size≤4:=by
  rcases eM h with rfl|rfl|rfl|rfl|rfl|rfl|rfl|rfl|rfl|rfl|rfl|rfl|rfl|rfl|rfl|rfl|rfl|rfl|rfl|rfl|rfl|rfl<;>decide
def fldF (i:Ins) (c:Int):Int:=if c=65 then i.gA else if c=66 then i.gB else if c=67 then i.gC else i.gK
theorem hb122:af prog 122:=fun _ _=>by kernel_rfl

theorem rows_any  (w:World):Ret prog 122 #[] w (fun v w'=>∃ b,v=.slice (some ⟨b,0,none⟩) 23 23∧Sep w [box b (bQ.flatMap rwoE) 147] w'):=by
 refine Ret.st (N:=25) func122 fun R hR S0=>J.r 29 [] [(23,.agg #[.string ⟨#[108,97,103]⟩,.string ⟨#[65,66,75]⟩,iv 8]),(22,.agg #[.string ⟨#[109,97,112]⟩,.string ⟨#[65,66,67,75]⟩,iv 40]),(21,.agg #[.string ⟨#[99,117,114,118,101]⟩,.string ⟨#[65,66,75]⟩,iv 20]),(20,.agg #[.string ⟨#[115,101,108,101,99,116]⟩,.string ⟨#[65,66,67,75]⟩,iv 2]),(19,.agg #[.string ⟨#[110,111,116]⟩,.string ⟨#[65,66]⟩,iv 1]),(18,.agg #[.string ⟨#[111,114]⟩,.string ⟨#[65,66,67]⟩,iv 1]),(17,.agg #[.string ⟨#[97,110,100]⟩,.string ⟨#[65,66,67]⟩,iv 1]),(16,.agg #[.string ⟨#[98,101,108,111,119]⟩,.string ⟨#[65,66,67]⟩,iv 1]),(15,.agg #[.string ⟨#[101,113,117,97,108]⟩,.string ⟨#[65,66,67,75]⟩,iv 4]),(14,.agg #[.string ⟨#[108,101,115,115]⟩,.string ⟨#[65,66,67,75]⟩,iv 3]),(13,.agg #[.string ⟨#[109,97,120]⟩,.string ⟨#[65,66,67]⟩,iv 1]),(12,.agg #[.string ⟨#[109,105,110]⟩,.string ⟨#[65,66,67]⟩,iv 1]),(11,.agg #[.string ⟨#[99,111,110,118,101,114,116]⟩,.string ⟨#[65,66,75]⟩,iv 4]),(10,.agg #[.string ⟨#[110,101,103]⟩,.string ⟨#[65,66,75]⟩,iv 3]),(9,.agg #[.string ⟨#[100,105,118]⟩,.string ⟨#[65,66,67,75]⟩,iv 12]),(8,.agg #[.string ⟨#[109,117,108]⟩,.string ⟨#[65,66,67,75]⟩,iv 4]),(7,.agg #[.string ⟨#[115,117,98]⟩,.string ⟨#[65,66,67,75]⟩,iv 3]),(6,.agg #[.string ⟨#[97,100,100]⟩,.string ⟨#[65,66,67,75]⟩,iv 3]),(5,.agg #[.string ⟨#[109,111,118,101]⟩,.string ⟨#[65,66]⟩,iv 1]),(4,.agg #[.string ⟨#[115,116,111,114,101]⟩,.string ⟨#[65,75]⟩,iv 2]),(3,.agg #[.string ⟨#[108,111,97,100]⟩,.string ⟨#[65,75]⟩,iv 2]),(2,.agg #[.string ⟨#[99,111,110,115,116]⟩,.string ⟨#[65,75]⟩,iv 1]),(1,.agg #[.string ByteArray.empty,.string ByteArray.empty,iv 0])] []<|J.newSlice S0 24 23 [.string ByteArray.empty,.string ByteArray.empty,iv 0,.string ⟨#[99,111,110,115,116]⟩,.string ⟨#[65,75]⟩,iv 1,.string ⟨#[108,111,97,100]⟩,.string ⟨#[65,75]⟩,iv 2,.string ⟨#[115,116,111,114,101]⟩,.string ⟨#[65,75]⟩,iv 2,.string ⟨#[109,111,118,101]⟩,.string ⟨#[65,66]⟩,iv 1,.string ⟨#[97,100,100]⟩,.string ⟨#[65,66,67,75]⟩,iv 3,.string ⟨#[115,117,98]⟩,.string ⟨#[65,66,67,75]⟩,iv 3,.string ⟨#[109,117,108]⟩,.string ⟨#[65,66,67,75]⟩,iv 4,.string ⟨#[100,105,118]⟩,.string ⟨#[65,66,67,75]⟩,iv 12,.string ⟨#[110,101,103]⟩,.string ⟨#[65,66,75]⟩,iv 3,.string ⟨#[99,111,110,118,101,114,116]⟩,.string ⟨#[65,66,75]⟩,iv 4,.string ⟨#[109,105,110]⟩,.string ⟨#[65,66,67]⟩,iv 1,.string ⟨#[109,97,120]⟩,.string ⟨#[65,66,67]⟩,iv 1,.string ⟨#[108,101,115,115]⟩,.string ⟨#[65,66,67,75]⟩,iv 3,.string ⟨#[101,113,117,97,108]⟩,.string ⟨#[65,66,67,75]⟩,iv 4,.string ⟨#[98,101,108,111,119]⟩,.string ⟨#[65,66,67]⟩,iv 1,.string ⟨#[97,110,100]⟩,.string ⟨#[65,66,67]⟩,iv 1,.string ⟨#[111,114]⟩,.string ⟨#[65,66,67]⟩,iv 1,.string ⟨#[110,111,116]⟩,.string ⟨#[65,66]⟩,iv 1,.string ⟨#[115,101,108,101,99,116]⟩,.string ⟨#[65,66,67,75]⟩,iv 2,.string ⟨#[99,117,114,118,101]⟩,.string ⟨#[65,66,75]⟩,iv 20,.string ⟨#[109,97,112]⟩,.string ⟨#[65,66,67,75]⟩,iv 40,.string ⟨#[108,97,103]⟩,.string ⟨#[65,66,75]⟩,iv 8] 147 kr ?_
 intro b1 w1 S1
 refine J.e 2 [.slice (some ⟨b1,0,none⟩) 23 23] func122 (hR _ _ ?_)
 exact⟨_,rfl,S1⟩

theorem hb121:af prog 121:=fun _ _=>by kernel_rfl

theorem known_any (op:Int) (w:World):Ret prog 121 #[iv op] w (fun v w'=>v=.bool (decide (1≤op∧op≤22))∧Sep w [] w'):=by
 refine Ret.st (N:=9) func121 fun R hR S0=>J.c 9 [] [] [] 5 (op≥1) (fun fk1=>?_) fun fk1=>?_
 refine J.e 5 [.bool (decide (op≤22))] func121 (hR _ _ ?_)
 exact⟨congrArg Value.bool (by show(decide (op≤22))=decide (1≤op∧op≤22);by_cases hz_:op≤22;(rw[(decide_eq_true hz_)];first | exact(decide_eq_true om).symm | exact(decide_eq_false om).symm);(rw[(decide_eq_false hz_)];first | exact(decide_eq_false om).symm | exact(decide_eq_true om).symm)),S0.nil⟩
 refine J.e 5 [.bool false] func121 (hR _ _ ?_)
 exact⟨congrArg Value.bool (decide_eq_false (show ¬ (1≤op∧op≤22) by omega)).symm,S0.nil⟩

theorem hb92:af prog 92:=fun _ _=>by kernel_rfl

theorem typed_any (op:Int) (w:World):Ret prog 92 #[iv op] w (fun v w'=>v=.bool (decide (ec op))∧Sep w [] w'):=by
 refine Ret.st (N:=17) func92 fun R hR S0=>J.c 9 [] [] [] 5 (op≥5) (fun fk1=>?_) fun fk1=>?_
 refine J.c 4 [] [] [] 9 (op≤10) (fun fk2=>?_) fun fk2=>?_
 refine J.e 9 [.bool true] func92 (hR _ _ ?_)
 exact⟨congrArg Value.bool (decide_eq_true (show ec op by omega)).symm,S0.nil⟩
 refine J.c 4 [] [] [] 13 (op=13) (fun fk3=>?_) fun fk3=>?_
 refine J.e 5 [.bool true] func92 (hR _ _ ?_)
 exact⟨congrArg Value.bool (decide_eq_true (show ec op by omega)).symm,S0.nil⟩
 refine J.e 5 [.bool (op==14)] func92 (hR _ _ ?_)
 exact⟨congrArg Value.bool (by show(op==14)=decide (ec op);by_cases hz_:op=14;(rw[(beq_iff_eq.2 hz_)];first | exact(decide_eq_true om).symm | exact(decide_eq_false om).symm);(rw[(beq_eq_false_iff_ne.2 hz_)];first | exact(decide_eq_false om).symm | exact(decide_eq_true om).symm)),S0.nil⟩
 refine J.c 8 [] [] [] 13 (op=13) (fun fk4=>?_) fun fk4=>?_
 refine J.e 5 [.bool true] func92 (hR _ _ ?_)
 exact⟨congrArg Value.bool (decide_eq_true (show ec op by omega)).symm,S0.nil⟩
 refine J.e 5 [.bool (op==14)] func92 (hR _ _ ?_)
 exact⟨congrArg Value.bool (by show(op==14)=decide (ec op);by_cases hz_:op=14;(rw[(beq_iff_eq.2 hz_)];first | exact(decide_eq_true om).symm | exact(decide_eq_false om).symm);(rw[(beq_eq_false_iff_ne.2 hz_)];first | exact(decide_eq_false om).symm | exact(decide_eq_true om).symm)),S0.nil⟩

theorem hb127:af prog 127:=fun _ _=>by kernel_rfl

theorem split3_any (k:Int) (w:World) (hk: -9223372036854775808≤k∧k≤9223372036854775807):Ret prog 127 #[iv k] w (fun v w'=>v=.tuple #[iv (k/16384),iv (k/128%128),iv (k%128)]∧Sep w [] w'):=by
 refine Ret.st (N:=12) func127 fun R hR S0=>J.h 10 [] [] [] 6 (iv (Int.fdiv k (2^14))) (iv (k/16384)) (congrArg (Value.int .i64) (dl _ _ dE))<|J.h 2 [] [] [] 8 (iv (Int.fdiv k (2^7))) (iv (k/128)) (congrArg (Value.int .i64) (dl _ _ dE))<|J.h 1 [] [] [] 9 (iv (IntKind.wrap .i64 ((BitVec.ofInt 64 (k/128) &&& (BitVec.ofInt 64 (127:Int))).toNat:Int))) (iv ((k/128)%128)) (congrArg (Value.int .i64) (dB 7 _ _ rF dE))<|J.h 2 [] [] [] 11 (iv (IntKind.wrap .i64 ((BitVec.ofInt 64 k &&& (BitVec.ofInt 64 (127:Int))).toNat:Int))) (iv (k%128)) (congrArg (Value.int .i64) (dB 7 _ _ rF dE))<|J.e 4 [iv (k/16384),iv ((k/128)%128),iv (k%128)] func127 (hR _ _ ?_)
 exact⟨rfl,S0.nil⟩

theorem hb123:af prog 123:=fun _ _=>by kernel_rfl

theorem field_any (i:Ins) (c:Int) (w:World):Ret prog 123 #[.agg (dP i),.int .u8 c] w (fun v w'=>v=iv (fldF i c)∧Sep w [] w'):=by
 refine Ret.st (N:=20) func123 fun R hR S0=>J.nw 2 [] [] [] S0 2 (aZ i) 64 fun b1 w1 S1=>J.c 13 [] [(5,.int .u8 c)] [] 6 (c=65) (fun fk1=>?_) fun fk1=>?_
 refine J.lb 4 [true] [] [] S1 0 rfl 9 (iv i.gA)<|J.e 2 [iv i.gA] func123 (hR _ _ ?_)
 exact⟨congrArg (Value.int .i64) (by unfold fldF;(repeat first | rw[if_pos om] | rw[if_neg om])<;>rfl),S1.nil⟩
 refine J.c 6 [false] [] [] 10 (c=66) (fun fk2=>?_) fun fk2=>?_
 refine J.lb 4 [true] [] [] S1 0 rfl 13 (iv i.gB)<|J.e 2 [iv i.gB] func123 (hR _ _ ?_)
 exact⟨congrArg (Value.int .i64) (by unfold fldF;(repeat first | rw[if_pos om] | rw[if_neg om])<;>rfl),S1.nil⟩
 refine J.c 6 [false] [] [] 14 (c=67) (fun fk3=>?_) fun fk3=>?_
 refine J.lb 4 [true] [] [] S1 0 rfl 17 (iv i.gC)<|J.e 2 [iv i.gC] func123 (hR _ _ ?_)
 exact⟨congrArg (Value.int .i64) (by unfold fldF;(repeat first | rw[if_pos om] | rw[if_neg om])<;>rfl),S1.nil⟩
 refine J.lb 6 [false] [] [] S1 0 rfl 19 (iv i.gK)<|J.e 2 [iv i.gK] func123 (hR _ _ ?_)
 exact⟨congrArg (Value.int .i64) (by unfold fldF;(repeat first | rw[if_pos om] | rw[if_neg om])<;>rfl),S1.nil⟩

theorem hb126:af prog 126:=fun _ _=>by kernel_rfl

theorem constant_any (i:Ins) (w:World) (hi:insQ w i):Ret prog 126 #[.agg (dP i)] w (fun v w'=>v=.bool (kB i.gOp i.gK)∧Sep w [] w'):=by
 refine Ret.st (N:=103) func126 fun R hR S0=>?_
 obtain ⟨q1,q2,q3,q4,q5,_⟩:=id hi
 refine J.nw 2 [] [] [] S0 1 (aZ i) 64 fun b1 w1 S1=>J.lb 5 [] [] [] S1 0 rfl 8 (iv i.gK)<|J.c0 0 [] [] [] S1 9 hb127 (split3_any i.gK _ om) fun w2 S2=>J.lb 13 [] [(5,iv (i.gK%128)),(4,iv (i.gK/128%128))] [] S2 0 rfl 15 (iv i.gOp)<|J.c 3 [] [] [] 13 (i.gOp=1) (fun fk1=>?_) fun fk1=>?_
 refine J.lb 4 [true] [] [] S2 0 rfl 18 (iv i.gK)<|J.c 2 [] [] [] 20 (i.gK≥(-1099511627776)) (fun fk2=>?_) fun fk2=>?_
 refine J.lb 1 [] [] [] S2 0 rfl 22 (iv i.gK)<|J.e 4 [.bool (decide (i.gK≤1099511627776))] func126 (hR _ _ ?_)
 exact⟨congrArg Value.bool (by show(decide (i.gK≤1099511627776))=decide (kP i.gOp i.gK);by_cases hz_:i.gK≤1099511627776;(rw[(decide_eq_true hz_)];first | exact(decide_eq_true om).symm | exact(decide_eq_false om).symm);(rw[(decide_eq_false hz_)];first | exact(decide_eq_false om).symm | exact(decide_eq_true om).symm)),S2.nil⟩
 refine J.e 6 [.bool false] func126 (hR _ _ ?_)
 exact⟨congrArg Value.bool (decide_eq_false (show ¬ (kP i.gOp i.gK) by omega)).symm,S2.nil⟩
 refine J.lb 4 [false] [] [] S2 0 rfl 27 (iv i.gOp)<|J.c 3 [] [] [] 25 (i.gOp=19) (fun fk3=>?_) fun fk3=>?_
 refine J.lb 4 [true] [] [] S2 0 rfl 30 (iv i.gK)<|J.c 2 [] [] [] 32 (i.gK≥0) (fun fk4=>?_) fun fk4=>?_
 refine J.lb 1 [] [] [] S2 0 rfl 34 (iv i.gK)<|J.e 4 [.bool (decide (i.gK<16))] func126 (hR _ _ ?_)
 exact⟨congrArg Value.bool (by show(decide (i.gK<16))=decide (kP i.gOp i.gK);by_cases hz_:i.gK<16;(rw[(decide_eq_true hz_)];first | exact(decide_eq_true om).symm | exact(decide_eq_false om).symm);(rw[(decide_eq_false hz_)];first | exact(decide_eq_false om).symm | exact(decide_eq_true om).symm)),S2.nil⟩
 refine J.e 6 [.bool false] func126 (hR _ _ ?_)
 exact⟨congrArg Value.bool (decide_eq_false (show ¬ (kP i.gOp i.gK) by omega)).symm,S2.nil⟩
 refine J.lb 4 [false] [] [] S2 0 rfl 39 (iv i.gOp)<|J.c0 0 [] [] [] S2 40 hb92 (typed_any i.gOp _) fun w3 S3=>J.b 2 [] [] [] 37 (decide (ec i.gOp)) (fun fk5=>?_) fun fk5=>?_
 have fb1:=of_decide_eq_true fk5
 refine J.lb 4 [true] [] [] S3 0 rfl 42 (iv i.gK)<|J.c 2 [] [] [] 44 (i.gK≥0) (fun fk6=>?_) fun fk6=>?_
 refine J.lb 1 [] [] [] S3 0 rfl 46 (iv i.gK)<|J.c 3 [] [] [] 49 (i.gK<2097152) (fun fk7=>?_) fun fk7=>?_
 refine J.c 3 [] [] [] 52 ((i.gK/128%128)=0) (fun fk8=>?_) fun fk8=>?_
 refine J.c 14 [] [(63,.bool true)] [] 66 ((i.gK%128)=0) (fun fk9=>?_) fun fk9=>?_
 refine J.e 12 [.bool true] func126 (hR _ _ ?_)
 exact⟨congrArg Value.bool (decide_eq_true (show kP i.gOp i.gK by omega)).symm,S3.nil⟩
 refine J.lb 1 [] [] [] S3 0 rfl 68 (iv i.gOp)<|J.cn 2 [] [] [] 70 (i.gOp=13) (fun fk10=>?_) fun fk10=>?_
 refine J.e 8 [.bool false] func126 (hR _ _ ?_)
 exact⟨congrArg Value.bool (decide_eq_false (show ¬ (kP i.gOp i.gK) by omega)).symm,S3.nil⟩
 refine J.lb 1 [] [] [] S3 0 rfl 72 (iv i.gOp)<|J.e 6 [.bool (i.gOp != 14)] func126 (hR _ _ ?_)
 exact⟨congrArg Value.bool (by show(i.gOp != 14)=decide (kP i.gOp i.gK);by_cases hz_:i.gOp=14;(rw[(bne_eq_false_iff_eq.2 hz_)];first | exact(decide_eq_true om).symm | exact(decide_eq_false om).symm);(rw[(bne_iff_ne.2 hz_)];first | exact(decide_eq_false om).symm | exact(decide_eq_true om).symm)),S3.nil⟩
 refine J.lb 1 [] [] [] S3 0 rfl 54 (iv i.gOp)<|J.cn 2 [] [] [] 56 (i.gOp=9) (fun fk11=>?_) fun fk11=>?_
 refine J.e 22 [.bool false] func126 (hR _ _ ?_)
 exact⟨congrArg Value.bool (decide_eq_false (show ¬ (kP i.gOp i.gK) by omega)).symm,S3.nil⟩
 refine J.lb 1 [] [] [] S3 0 rfl 58 (iv i.gOp)<|J.cn 5 [] [] [] 63 (i.gOp=10) (fun fk12=>?_) fun fk12=>?_
 refine J.e 15 [.bool false] func126 (hR _ _ ?_)
 exact⟨congrArg Value.bool (decide_eq_false (show ¬ (kP i.gOp i.gK) by omega)).symm,S3.nil⟩
 refine J.c 3 [] [] [] 66 ((i.gK%128)=0) (fun fk13=>?_) fun fk13=>?_
 refine J.e 12 [.bool true] func126 (hR _ _ ?_)
 exact⟨congrArg Value.bool (decide_eq_true (show kP i.gOp i.gK by omega)).symm,S3.nil⟩
 refine J.lb 1 [] [] [] S3 0 rfl 68 (iv i.gOp)<|J.cn 2 [] [] [] 70 (i.gOp=13) (fun fk14=>?_) fun fk14=>?_
 refine J.e 8 [.bool false] func126 (hR _ _ ?_)
 exact⟨congrArg Value.bool (decide_eq_false (show ¬ (kP i.gOp i.gK) by omega)).symm,S3.nil⟩
 refine J.lb 1 [] [] [] S3 0 rfl 72 (iv i.gOp)<|J.e 6 [.bool (i.gOp != 14)] func126 (hR _ _ ?_)
 exact⟨congrArg Value.bool (by show(i.gOp != 14)=decide (kP i.gOp i.gK);by_cases hz_:i.gOp=14;(rw[(bne_eq_false_iff_eq.2 hz_)];first | exact(decide_eq_true om).symm | exact(decide_eq_false om).symm);(rw[(bne_iff_ne.2 hz_)];first | exact(decide_eq_false om).symm | exact(decide_eq_true om).symm)),S3.nil⟩
 refine J.e 29 [.bool false] func126 (hR _ _ ?_)
 exact⟨congrArg Value.bool (decide_eq_false (show ¬ (kP i.gOp i.gK) by omega)).symm,S3.nil⟩
 refine J.e 34 [.bool false] func126 (hR _ _ ?_)
 exact⟨congrArg Value.bool (decide_eq_false (show ¬ (kP i.gOp i.gK) by omega)).symm,S3.nil⟩
 have fb2:=of_decide_eq_false fk5
 refine J.lb 4 [false] [] [] S3 0 rfl 79 (iv i.gOp)<|J.c 3 [] [] [] 77 (i.gOp=22) (fun fk15=>?_) fun fk15=>?_
 refine J.lb 4 [true] [] [] S3 0 rfl 82 (iv i.gK)<|J.c 2 [] [] [] 84 (i.gK≥0) (fun fk16=>?_) fun fk16=>?_
 refine J.lb 1 [] [] [] S3 0 rfl 86 (iv i.gK)<|J.c 3 [] [] [] 89 (i.gK≤32767) (fun fk17=>?_) fun fk17=>?_
 refine J.lb 1 [] [] [] S3 0 rfl 91 (iv i.gK)<|J.h 1 [] [] [] 92 (iv (IntKind.wrap .i64 ((BitVec.ofInt 64 i.gK &&& (BitVec.ofInt 64 (31:Int))).toNat:Int))) (iv (i.gK%32)) (congrArg (Value.int .i64) (dB 5 _ _ rF dE))<|J.e 4 [.bool (decide ((i.gK%32)≤20))] func126 (hR _ _ ?_)
 exact⟨congrArg Value.bool (by show(decide ((i.gK%32)≤20))=decide (kP i.gOp i.gK);by_cases hz_:(i.gK%32)≤20;(rw[(decide_eq_true hz_)];first | exact(decide_eq_true om).symm | exact(decide_eq_false om).symm);(rw[(decide_eq_false hz_)];first | exact(decide_eq_false om).symm | exact(decide_eq_true om).symm)),S3.nil⟩
 refine J.e 7 [.bool false] func126 (hR _ _ ?_)
 exact⟨congrArg Value.bool (decide_eq_false (show ¬ (kP i.gOp i.gK) by omega)).symm,S3.nil⟩
 refine J.e 12 [.bool false] func126 (hR _ _ ?_)
 exact⟨congrArg Value.bool (decide_eq_false (show ¬ (kP i.gOp i.gK) by omega)).symm,S3.nil⟩
 refine J.lb 6 [false] [] [] S3 0 rfl 96 (iv i.gK)<|J.c 2 [] [] [] 98 (i.gK≥0) (fun fk18=>?_) fun fk18=>?_
 refine J.lb 1 [] [] [] S3 0 rfl 100 (iv i.gK)<|J.e 4 [.bool (decide (i.gK≤32767))] func126 (hR _ _ ?_)
 exact⟨congrArg Value.bool (by show(decide (i.gK≤32767))=decide (kP i.gOp i.gK);by_cases hz_:i.gK≤32767;(rw[(decide_eq_true hz_)];first | exact(decide_eq_true om).symm | exact(decide_eq_false om).symm);(rw[(decide_eq_false hz_)];first | exact(decide_eq_false om).symm | exact(decide_eq_true om).symm)),S3.nil⟩
 refine J.e 6 [.bool false] func126 (hR _ _ ?_)
 exact⟨congrArg Value.bool (decide_eq_false (show ¬ (kP i.gOp i.gK) by omega)).symm,S3.nil⟩
abbrev kvW13_1:List Value:=[.string ByteArray.empty,.string ByteArray.empty,iv 0]
theorem hb91:af prog 91:=fun _ _=>by kernel_rfl
def K91_0:=adv 16 [false] (bi Tryz.f91)
def K91_1:=List.drop 1 (adv 33 [true] (cR (adv 16 [false] (bi Tryz.f91))))
def K91_2:=List.drop 1 (adv 31 [false,true] K91_1)
def K91_3:=List.drop 1 (adv 31 [false,true] K91_2)
theorem formed_any (i:Ins) (w:World) (hi:insQ w i):Ret prog 91 #[.agg (dP i)] w (fun v w'=>v=.bool (formB i)∧Sep w [] w'):=by
 refine Ret.st (N:=53) func91 fun R hR S0=>?_
 obtain ⟨q1,q2,q3,q4,q5,_⟩:=id hi
 have hrl_:=rows_len
 refine J.nw 2 [] [] [] S0 1 (aZ i) 64 fun b1 w1 S1=>J.lb 6 [] [] [] S1 0 rfl 8 (iv i.gOp)<|J.c0 0 [] [] [] S1 9 hb121 (known_any i.gOp _) fun w2 S2=>J.bn 2 [] [] [] 10 (decide (1≤i.gOp∧i.gOp≤22)) (fun fk1=>?_) fun fk1=>?_
 have fb1:=of_decide_eq_true fk1
 have hrs:=rows_size (op:=i.gOp) om
 refine J.r 3 [false] [] [] ?_
 have W1:∀ (bd5:Nat) (bd0:Nat) (w3:World),Sep w [box bd0 (bQ.flatMap rwoE) 147,box bd5 (rwoC (bQ.getD ((i.gOp).toNat) eb)) 147,box b1 (aZ i) 64] w3→WA prog 91 53 R K91_0 (fun w_=>Sep w [box b1 (aZ i) 64] w_) 0 #[true,true,true,true,true,true,true] [(1,pv b1),(3,pv bd5)] w3:=by
  intro bd5 bd0 w3 S3
  refine WA.done kr<|J.r 3 [] [] []<|J.newSlice S3 16 3 [.int .u8 65,.int .u8 66,.int .u8 67] 5 kr ?_
  intro b2 w4 S4
  refine J.constBytes (b:=b2) (e:=5) S4 0 (⟨#[65,66,67]⟩:ByteArray) 17 150 3 3 kr kr kr ?_
  intro w5 S5
  replace S5:Sep w [rows8 b2 (⟨#[65,66,67]⟩:ByteArray),box bd0 (bQ.flatMap rwoE) 147,box bd5 (rwoC (bQ.getD ((i.gOp).toNat) eb)) 147,box b1 (aZ i) 64] w5:=S5
  refine J.r 16 [true] [(19,iv 0),(18,iv 3)] [] ?_
  obtain ⟨p1,hp1,hc1⟩:=rows8_at (S5.nth 0 rfl) 0 (by first | decide | omega | (simp;omega))
  have:=byteAt_bounds (⟨#[65,66,67]⟩:ByteArray) 0
  have hc2:w5.cell? (p1.add 0)=some (.int .u8 65):=hc1
  refine J.ok (OK.index 21 150 1 (some ⟨b2,0,none⟩) p1 3 0 0 (p1.add 0) kr kr hp1 om oz nO)<|J.ok (OK.ldCell 22 5 (p1.add 0) (.int .u8 65) kr kr hc2)<|J.lb 4 [] [(5,.int .u8 65)] [] S5 3 rfl 23 (.agg (dP i))<|J.r 1 [] [(24,.int .u8 65)] []<|J.c0 0 [] [] [] S5 25 hb123 (field_any i 65 _) fun w6 S6=>J.head (iv i.gA) (congrArg (Value.int .i64) rfl) ?_
  have X1:∀ (tb0:Bool) (w7:World),((tb0=true→¬ ((0≤i.gA∧i.gA≤15)∧(1≤i.gOp∨i.gA=0)))∧(tb0=false→(0≤i.gA∧i.gA≤15)∧(1≤i.gOp∨i.gA=0)))→Sep w [rows8 b2 (⟨#[65,66,67]⟩:ByteArray),box bd0 (bQ.flatMap rwoE) 147,box bd5 (rwoC (bQ.getD ((i.gOp).toNat) eb)) 147,box b1 (aZ i) 64] w7→J prog 91 53 R K91_1 [(19,iv 0),(18,iv 3),(17,.slice (some ⟨b2,0,none⟩) 3 3),(1,pv b1),(3,pv bd5),(42,.bool tb0)] w7:=by
   intro tb0 w7 htb0 S7
   refine J.b 0 [] [] [] 42 tb0 (fun fk2=>?_) fun fk2=>?_
   have fb3:=htb0.1 fk2
   refine J.e 5 [.bool false] func91 (hR _ _ ?_)
   exact⟨congrArg Value.bool (decide_eq_false (show ¬ (cU i.gOp i.gA i.gB i.gC i.gK) by omega)).symm,S7.nil⟩
   have fb4:=htb0.2 fk2
   refine J.r 19 [false,true] [(19,iv 1)] [] ?_
   obtain ⟨p2,hp2,hc3⟩:=rows8_at (S7.nth 0 rfl) 1 (by first | decide | omega | (simp;omega))
   have:=byteAt_bounds (⟨#[65,66,67]⟩:ByteArray) 1
   have hc4:w7.cell? (p2.add 1)=some (.int .u8 66):=hc3
   refine J.ok (OK.index 21 150 1 (some ⟨b2,0,none⟩) p2 3 1 1 (p2.add 1) kr kr hp2 om oz nO)<|J.ok (OK.ldCell 22 5 (p2.add 1) (.int .u8 66) kr kr hc4)<|J.lb 4 [] [(5,.int .u8 66)] [] S7 3 rfl 23 (.agg (dP i))<|J.r 1 [] [(24,.int .u8 66)] []<|J.c0 0 [] [] [] S7 25 hb123 (field_any i 66 _) fun w8 S8=>J.head (iv i.gB) (congrArg (Value.int .i64) rfl) ?_
   have X2:∀ (tb1:Bool) (w9:World),((tb1=true→¬ ((0≤i.gB∧i.gB≤15)∧(4≤i.gOp∨i.gB=0)))∧(tb1=false→(0≤i.gB∧i.gB≤15)∧(4≤i.gOp∨i.gB=0)))→Sep w [rows8 b2 (⟨#[65,66,67]⟩:ByteArray),box bd0 (bQ.flatMap rwoE) 147,box bd5 (rwoC (bQ.getD ((i.gOp).toNat) eb)) 147,box b1 (aZ i) 64] w9→J prog 91 53 R K91_2 [(19,iv 1),(18,iv 3),(17,.slice (some ⟨b2,0,none⟩) 3 3),(1,pv b1),(3,pv bd5),(42,.bool tb1)] w9:=by
    intro tb1 w9 htb1 S9
    refine J.b 0 [] [] [] 42 tb1 (fun fk3=>?_) fun fk3=>?_
    have fb5:=htb1.1 fk3
    refine J.e 5 [.bool false] func91 (hR _ _ ?_)
    exact⟨congrArg Value.bool (decide_eq_false (show ¬ (cU i.gOp i.gA i.gB i.gC i.gK) by omega)).symm,S9.nil⟩
    have fb6:=htb1.2 fk3
    refine J.r 19 [false,true] [(19,iv 2)] [] ?_
    obtain ⟨p3,hp3,hc5⟩:=rows8_at (S9.nth 0 rfl) 2 (by first | decide | omega | (simp;omega))
    have:=byteAt_bounds (⟨#[65,66,67]⟩:ByteArray) 2
    have hc6:w9.cell? (p3.add 2)=some (.int .u8 67):=hc5
    refine J.ok (OK.index 21 150 1 (some ⟨b2,0,none⟩) p3 3 2 2 (p3.add 2) kr kr hp3 om oz nO)<|J.ok (OK.ldCell 22 5 (p3.add 2) (.int .u8 67) kr kr hc6)<|J.lb 4 [] [(5,.int .u8 67)] [] S9 3 rfl 23 (.agg (dP i))<|J.r 1 [] [(24,.int .u8 67)] []<|J.c0 0 [] [] [] S9 25 hb123 (field_any i 67 _) fun w10 S10=>J.head (iv i.gC) (congrArg (Value.int .i64) rfl) ?_
    have X3:∀ (tb2:Bool) (w11:World),((tb2=true→¬ ((0≤i.gC∧i.gC≤15)∧(useC i.gOp∨i.gC=0)))∧(tb2=false→(0≤i.gC∧i.gC≤15)∧(useC i.gOp∨i.gC=0)))→Sep w [rows8 b2 (⟨#[65,66,67]⟩:ByteArray),box bd0 (bQ.flatMap rwoE) 147,box bd5 (rwoC (bQ.getD ((i.gOp).toNat) eb)) 147,box b1 (aZ i) 64] w11→J prog 91 53 R K91_3 [(19,iv 2),(18,iv 3),(17,.slice (some ⟨b2,0,none⟩) 3 3),(1,pv b1),(3,pv bd5),(42,.bool tb2)] w11:=by
     intro tb2 w11 htb2 S11
     refine J.b 0 [] [] [] 42 tb2 (fun fk4=>?_) fun fk4=>?_
     have fb7:=htb2.1 fk4
     refine J.e 5 [.bool false] func91 (hR _ _ ?_)
     exact⟨congrArg Value.bool (decide_eq_false (show ¬ (cU i.gOp i.gA i.gB i.gC i.gK) by omega)).symm,S11.nil⟩
     have fb8:=htb2.2 fk4
     refine J.lb 19 [false,false] [] [19] S11 2 rfl 45 (.string ((bQ.getD ((i.gOp).toNat) eb).gfields))<|J.c0 0 [] [] [] S11 46 hb125 (hassuffix_any ((bQ.getD ((i.gOp).toNat) eb).gfields) (⟨#[75]⟩:ByteArray) _ om) fun w12 S12=>J.bn 2 [] [] [] 47 (sufB ((bQ.getD ((i.gOp).toNat) eb).gfields) (⟨#[75]⟩:ByteArray)) (fun fk5=>?_) fun fk5=>?_
     have fb9:=(suf_K (op:=i.gOp) om).1 fk5
     refine J.lb 4 [false] [] [] S12 3 rfl 51 (.agg (dP i))<|J.c0 0 [] [] [] S12 52 hb126 (constant_any i _ (dF hi S12)) fun w13 S13=>J.e 2 [.bool (kB (i).gOp (i).gK)] func91 (hR _ _ ?_)
     exact⟨congrArg Value.bool (by show _=decide (cU i.gOp i.gA i.gB i.gC i.gK);cases hz_:kB (i).gOp (i).gK with | true=>(have h_:=kB_iff.1 hz_;exact(decide_eq_true om).symm) | false=>(have h_:=mt kB_iff.2 (by rw[hz_];decide);exact(decide_eq_false om).symm)),S13.nil⟩
     have fb10:=mt (suf_K (op:=i.gOp) om).2 (by rw[fk5];decide)
     refine J.lb 4 [true] [] [] S12 3 rfl 49 (iv i.gK)<|J.e 3 [.bool (i.gK==0)] func91 (hR _ _ ?_)
     exact⟨congrArg Value.bool (by show(i.gK==0)=decide (cU i.gOp i.gA i.gB i.gC i.gK);by_cases hz_:i.gK=0;(rw[(beq_iff_eq.2 hz_)];first | exact(decide_eq_true om).symm | exact(decide_eq_false om).symm);(rw[(beq_eq_false_iff_ne.2 hz_)];first | exact(decide_eq_false om).symm | exact(decide_eq_true om).symm)),S12.nil⟩
    refine J.c 7 [] [(6,iv i.gC)] [] 28 (i.gC<0) (fun fk6=>?_) fun fk6=>?_
    exact J.t 15 (X3 true w10 (⟨fun h_=>by first | (cases h_;done) | (have h2_:=of_decide_eq_true h_;omega) | (have h2_:=bne_iff_ne.1 h_;omega) | omega,fun h_=>by first | (cases h_;done) | (have h2_:=of_decide_eq_false h_;omega) | (have h2_:=bne_eq_false_iff_eq.1 h_;omega) | omega⟩) S10)
    refine J.c 4 [] [] [] 32 (i.gC≥16) (fun fk7=>?_) fun fk7=>?_
    exact J.t 11 (X3 true w10 (⟨fun h_=>by first | (cases h_;done) | (have h2_:=of_decide_eq_true h_;omega) | (have h2_:=bne_iff_ne.1 h_;omega) | omega,fun h_=>by first | (cases h_;done) | (have h2_:=of_decide_eq_false h_;omega) | (have h2_:=bne_eq_false_iff_eq.1 h_;omega) | omega⟩) S10)
    refine J.cn 3 [] [] [] 35 (i.gC=0) (fun fk8=>?_) fun fk8=>?_
    exact J.t 8 (X3 false w10 (⟨fun h_=>by first | (cases h_;done) | (have h2_:=of_decide_eq_true h_;omega) | (have h2_:=bne_iff_ne.1 h_;omega) | omega,fun h_=>by first | (cases h_;done) | (have h2_:=of_decide_eq_false h_;omega) | (have h2_:=bne_eq_false_iff_eq.1 h_;omega) | omega⟩) S10)
    refine J.lb 1 [] [] [] S10 2 rfl 37 (.string ((bQ.getD ((i.gOp).toNat) eb).gfields))<|J.r 1 [] [(38,.int .u8 67)] []<|J.c0 0 [] [] [] S10 39 hb124 (indexbyte_any ((bQ.getD ((i.gOp).toNat) eb).gfields) 67 _) fun w14 S14=>?_
    have:=idx_C (op:=i.gOp) om
    exact J.t 4 (X3 (decide ((idxB ((bQ.getD ((i.gOp).toNat) eb).gfields) 67)<0)) w14 (⟨fun h_=>by first | (cases h_;done) | (have h2_:=of_decide_eq_true h_;omega) | (have h2_:=bne_iff_ne.1 h_;omega) | omega,fun h_=>by first | (cases h_;done) | (have h2_:=of_decide_eq_false h_;omega) | (have h2_:=bne_eq_false_iff_eq.1 h_;omega) | omega⟩) S14)
   refine J.c 7 [] [(6,iv i.gB)] [] 28 (i.gB<0) (fun fk9=>?_) fun fk9=>?_
   exact J.t 15 (X2 true w8 (⟨fun h_=>by first | (cases h_;done) | (have h2_:=of_decide_eq_true h_;omega) | (have h2_:=bne_iff_ne.1 h_;omega) | omega,fun h_=>by first | (cases h_;done) | (have h2_:=of_decide_eq_false h_;omega) | (have h2_:=bne_eq_false_iff_eq.1 h_;omega) | omega⟩) S8)
   refine J.c 4 [] [] [] 32 (i.gB≥16) (fun fk10=>?_) fun fk10=>?_
   exact J.t 11 (X2 true w8 (⟨fun h_=>by first | (cases h_;done) | (have h2_:=of_decide_eq_true h_;omega) | (have h2_:=bne_iff_ne.1 h_;omega) | omega,fun h_=>by first | (cases h_;done) | (have h2_:=of_decide_eq_false h_;omega) | (have h2_:=bne_eq_false_iff_eq.1 h_;omega) | omega⟩) S8)
   refine J.cn 3 [] [] [] 35 (i.gB=0) (fun fk11=>?_) fun fk11=>?_
   exact J.t 8 (X2 false w8 (⟨fun h_=>by first | (cases h_;done) | (have h2_:=of_decide_eq_true h_;omega) | (have h2_:=bne_iff_ne.1 h_;omega) | omega,fun h_=>by first | (cases h_;done) | (have h2_:=of_decide_eq_false h_;omega) | (have h2_:=bne_eq_false_iff_eq.1 h_;omega) | omega⟩) S8)
   refine J.lb 1 [] [] [] S8 2 rfl 37 (.string ((bQ.getD ((i.gOp).toNat) eb).gfields))<|J.r 1 [] [(38,.int .u8 66)] []<|J.c0 0 [] [] [] S8 39 hb124 (indexbyte_any ((bQ.getD ((i.gOp).toNat) eb).gfields) 66 _) fun w15 S15=>?_
   have:=idx_B (op:=i.gOp) om
   exact J.t 4 (X2 (decide ((idxB ((bQ.getD ((i.gOp).toNat) eb).gfields) 66)<0)) w15 (⟨fun h_=>by first | (cases h_;done) | (have h2_:=of_decide_eq_true h_;omega) | (have h2_:=bne_iff_ne.1 h_;omega) | omega,fun h_=>by first | (cases h_;done) | (have h2_:=of_decide_eq_false h_;omega) | (have h2_:=bne_eq_false_iff_eq.1 h_;omega) | omega⟩) S15)
  refine J.c 7 [] [(6,iv i.gA)] [] 28 (i.gA<0) (fun fk12=>?_) fun fk12=>?_
  exact J.t 15 (X1 true w6 (⟨fun h_=>by first | (cases h_;done) | (have h2_:=of_decide_eq_true h_;omega) | (have h2_:=bne_iff_ne.1 h_;omega) | omega,fun h_=>by first | (cases h_;done) | (have h2_:=of_decide_eq_false h_;omega) | (have h2_:=bne_eq_false_iff_eq.1 h_;omega) | omega⟩) S6)
  refine J.c 4 [] [] [] 32 (i.gA≥16) (fun fk13=>?_) fun fk13=>?_
  exact J.t 11 (X1 true w6 (⟨fun h_=>by first | (cases h_;done) | (have h2_:=of_decide_eq_true h_;omega) | (have h2_:=bne_iff_ne.1 h_;omega) | omega,fun h_=>by first | (cases h_;done) | (have h2_:=of_decide_eq_false h_;omega) | (have h2_:=bne_eq_false_iff_eq.1 h_;omega) | omega⟩) S6)
  refine J.cn 3 [] [] [] 35 (i.gA=0) (fun fk14=>?_) fun fk14=>?_
  exact J.t 8 (X1 false w6 (⟨fun h_=>by first | (cases h_;done) | (have h2_:=of_decide_eq_true h_;omega) | (have h2_:=bne_iff_ne.1 h_;omega) | omega,fun h_=>by first | (cases h_;done) | (have h2_:=of_decide_eq_false h_;omega) | (have h2_:=bne_eq_false_iff_eq.1 h_;omega) | omega⟩) S6)
  refine J.lb 1 [] [] [] S6 2 rfl 37 (.string ((bQ.getD ((i.gOp).toNat) eb).gfields))<|J.r 1 [] [(38,.int .u8 65)] []<|J.c0 0 [] [] [] S6 39 hb124 (indexbyte_any ((bQ.getD ((i.gOp).toNat) eb).gfields) 65 _) fun w16 S16=>?_
  have:=idx_A (op:=i.gOp) om
  exact J.t 4 (X1 (decide ((idxB ((bQ.getD ((i.gOp).toNat) eb).gfields) 65)<0)) w16 (⟨fun h_=>by first | (cases h_;done) | (have h2_:=of_decide_eq_true h_;omega) | (have h2_:=bne_iff_ne.1 h_;omega) | omega,fun h_=>by first | (cases h_;done) | (have h2_:=of_decide_eq_false h_;omega) | (have h2_:=bne_eq_false_iff_eq.1 h_;omega) | omega⟩) S16)
 have W2:∀ (bd5:Nat) (bd0:Nat) (w17:World),Sep w [box bd0 (bQ.flatMap rwoE) 147,box bd5 kvW13_1 147,box b1 (aZ i) 64] w17→WA prog 91 53 R K91_0 (fun w_=>Sep w [box b1 (aZ i) 64] w_) 1 #[true,true,true,true,true,true,false] [(1,pv b1),(3,pv bd5),(15,.agg (rwoA (bQ.getD ((i.gOp).toNat) eb)))] w17:=by
  intro bd5 bd0 w17 S17
  refine WA.all [6] kr rfl ⟨?_,trivial⟩
  refine WO.set #[true,true,true,true,true,true,true] kr<|WO.stBox S17 1 147 0 (.agg (rwoA (bQ.getD ((i.gOp).toNat) eb))) (rwoC (bQ.getD ((i.gOp).toNat) eb)) [box bd0 (bQ.flatMap rwoE) 147,box bd5 (rwoC (bQ.getD ((i.gOp).toNat) eb)) 147,box b1 (aZ i) 64] kr rfl kr kr rfl ?_
  intro w18 S18
  exact WB.mk ((S18.erase 1).erase 0)<|WA.weaken (env':=[(1,pv b1),(3,pv bd5)]) kr<|W1 bd5 bd0 w18 S18
 have W3:∀ (bd5:Nat) (bd0:Nat) (w19:World),Sep w [box bd0 (bQ.flatMap rwoE) 147,box bd5 kvW13_1 147,box b1 (aZ i) 64] w19→WA prog 91 53 R K91_0 (fun w_=>Sep w [box b1 (aZ i) 64] w_) 2 #[true,true,true,true,false,true,false] [(1,pv b1),(3,pv bd5),(14,.pointer (some ⟨bd0,((i.gOp).toNat)*3,none⟩))] w19:=by
  intro bd5 bd0 w19 S19
  refine WA.all [4] kr rfl ⟨?_,trivial⟩
  exact WO.set #[true,true,true,true,true,true,false] kr<|WO.ok (OK.ldCells 15 147 ⟨bd0,((i.gOp).toNat)*3,none⟩ (rwoC (bQ.getD ((i.gOp).toNat) eb)) kr kr kr (box_rec_at (s:=3) (S19.nth 0 rfl) (fun _=>rfl) dE eb ((i.gOp).toNat) oz))<|WB.mk ((S19.erase 1).erase 0)<|WA.weaken (env':=[(1,pv b1),(3,pv bd5),(15,.agg (rwoA (bQ.getD ((i.gOp).toNat) eb)))]) kr<|W2 bd5 bd0 w19 S19
 have W4:∀ (bd0:Nat) (w20:World),Sep w [box bd0 (bQ.flatMap rwoE) 147,box b1 (aZ i) 64] w20→WA prog 91 53 R K91_0 (fun w_=>Sep w [box b1 (aZ i) 64] w_) 2 #[true,true,true,true,true,false,false] [(1,pv b1),(15,.agg (rwoA (bQ.getD ((i.gOp).toNat) eb)))] w20:=by
  intro bd0 w20 S20
  refine WA.all [5] kr rfl ⟨?_,trivial⟩
  refine WO.set #[true,true,true,true,true,true,false] kr<|WO.new S20 3 kvW13_1 147 kr ?_
  intro bd5 w21 S21
  refine WB.mk ((S21.erase 1).erase 0)<|WA.weaken (env':=[(1,pv b1),(3,pv bd5),(15,.agg (rwoA (bQ.getD ((i.gOp).toNat) eb)))]) kr ?_
  have S22:Sep w [box bd5 kvW13_1 147,box bd0 (bQ.flatMap rwoE) 147,box b1 (aZ i) 64] w21:=S21.front 0 rfl
  have S23:Sep w [box bd0 (bQ.flatMap rwoE) 147,box bd5 kvW13_1 147,box b1 (aZ i) 64] w21:=S22.front 1 rfl
  exact W2 bd5 bd0 w21 S23
 have W5:∀ (bd0:Nat) (w22:World),Sep w [box bd0 (bQ.flatMap rwoE) 147,box b1 (aZ i) 64] w22→WA prog 91 53 R K91_0 (fun w_=>Sep w [box b1 (aZ i) 64] w_) 3 #[true,true,true,true,false,false,false] [(1,pv b1),(14,.pointer (some ⟨bd0,((i.gOp).toNat)*3,none⟩))] w22:=by
  intro bd0 w22 S24
  refine WA.all [4,5] kr rfl ⟨?_,?_,trivial⟩
  exact WO.set #[true,true,true,true,true,false,false] kr<|WO.ok (OK.ldCells 15 147 ⟨bd0,((i.gOp).toNat)*3,none⟩ (rwoC (bQ.getD ((i.gOp).toNat) eb)) kr kr kr (box_rec_at (s:=3) (S24.nth 0 rfl) (fun _=>rfl) dE eb ((i.gOp).toNat) oz))<|WB.mk (S24.erase 0)<|WA.weaken (env':=[(1,pv b1),(15,.agg (rwoA (bQ.getD ((i.gOp).toNat) eb)))]) kr<|W4 bd0 w22 S24
  refine WO.set #[true,true,true,true,false,true,false] kr<|WO.new S24 3 kvW13_1 147 kr ?_
  intro bd5 w23 S25
  refine WB.mk ((S25.erase 1).erase 0)<|WA.weaken (env':=[(1,pv b1),(3,pv bd5),(14,.pointer (some ⟨bd0,((i.gOp).toNat)*3,none⟩))]) kr ?_
  have S26:Sep w [box bd5 kvW13_1 147,box bd0 (bQ.flatMap rwoE) 147,box b1 (aZ i) 64] w23:=S25.front 0 rfl
  have S27:Sep w [box bd0 (bQ.flatMap rwoE) 147,box bd5 kvW13_1 147,box b1 (aZ i) 64] w23:=S26.front 1 rfl
  exact W3 bd5 bd0 w23 S27
 have W6:∀ (bd5:Nat) (w24:World),Sep w [box bd5 kvW13_1 147,box b1 (aZ i) 64] w24→WA prog 91 53 R K91_0 (fun w_=>Sep w [box b1 (aZ i) 64] w_) 4 #[false,true,true,false,false,true,false] [(1,pv b1),(3,pv bd5),(13,iv i.gOp)] w24:=by
  intro bd5 w24 S28
  refine WA.all [0] kr rfl ⟨?_,trivial⟩
  refine WO.set #[true,true,true,false,false,true,false] kr<|WO.callF 11 122 #[] hb122 kr (rows_any _) ?_
  rintro _ w25 ⟨bd0,rfl,T1⟩
  have S29:Sep w [box bd0 (bQ.flatMap rwoE) 147,box bd5 kvW13_1 147,box b1 (aZ i) 64] w25:=S28.trans T1
  clear T1 S28
  exact WB.mk ((S29.erase 1).erase 0)<|WA.takeOK 3 #[true,true,true,true,false,true,false] kr kr kr kr (fun w_ S_=>OK.index 14 148 3 (some ⟨bd0,0,none⟩) ⟨bd0,0,none⟩ 23 (i.gOp).toNat i.gOp ⟨bd0,((i.gOp).toNat)*3,none⟩ kr kr rfl om oz (by rw[add_block,Nat.zero_add])) rfl<|WA.weaken (env':=[(1,pv b1),(3,pv bd5),(14,.pointer (some ⟨bd0,((i.gOp).toNat)*3,none⟩))]) kr<|W3 bd5 bd0 w25 S29
 have W7:∀ (w26:World),Sep w [box b1 (aZ i) 64] w26→WA prog 91 53 R K91_0 (fun w_=>Sep w [box b1 (aZ i) 64] w_) 5 #[false,true,true,false,false,false,false] [(1,pv b1),(13,iv i.gOp)] w26:=by
  intro w26 S30
  refine WA.all [0,5] kr rfl ⟨?_,?_,trivial⟩
  refine WO.set #[true,true,true,false,false,false,false] kr<|WO.callF 11 122 #[] hb122 kr (rows_any _) ?_
  rintro _ w27 ⟨bd0,rfl,T2⟩
  have S31:Sep w [box bd0 (bQ.flatMap rwoE) 147,box b1 (aZ i) 64] w27:=S30.trans T2
  clear T2 S30
  exact WB.mk (S31.erase 0)<|WA.takeOK 3 #[true,true,true,true,false,false,false] kr kr kr kr (fun w_ S_=>OK.index 14 148 3 (some ⟨bd0,0,none⟩) ⟨bd0,0,none⟩ 23 (i.gOp).toNat i.gOp ⟨bd0,((i.gOp).toNat)*3,none⟩ kr kr rfl om oz (by rw[add_block,Nat.zero_add])) rfl<|WA.weaken (env':=[(1,pv b1),(14,.pointer (some ⟨bd0,((i.gOp).toNat)*3,none⟩))]) kr<|W5 bd0 w27 S31
  refine WO.set #[false,true,true,false,false,true,false] kr<|WO.new S30 3 kvW13_1 147 kr ?_
  intro bd5 w28 S32
  exact WB.mk (S32.erase 0)<|WA.weaken (env':=[(1,pv b1),(3,pv bd5),(13,iv i.gOp)]) kr<|W6 bd5 w28 S32
 refine J.drawAny (fun w_=>Sep w [box b1 (aZ i) 64] w_) S2 7 #[false,false,false,false,false,false,false] Tryz.mixed kr kr kr ?_
 intro w29 S33
 exact WB.mk S33<|WA.take 1 12 (pv b1) #[false,true,false,false,false,false,false] kr kr kr (fun _ _=>kr) kr<|WA.takeOK 2 #[false,true,true,false,false,false,false] kr kr kr kr (fun w_ S_=>OK.ldBox S_ 0 13 3 0 (iv i.gOp) kr rfl kr) rfl<|WA.weaken (env':=[(1,pv b1),(13,iv i.gOp)]) kr<|W7 w29 S33
 have fb11:=of_decide_eq_false fk1
 refine J.e 5 [.bool false] func91 (hR _ _ ?_)
 exact⟨congrArg Value.bool (decide_eq_false (show ¬ (cU i.gOp i.gA i.gB i.gC i.gK) by omega)).symm,S2.nil⟩
end
end Go.Proofs.YtaoolgcddapegaaGreat
