/- Walks of functions of this seat, printed by a program over the engine. Conditions: as each theorem says. -/
import Derived.Test.YtaoolgcddapegaaGreatZqV9
set_option linter.unusedSimpArgs false
set_option linter.unusedVariables false
namespace Go.Proofs.YtaoolgcddapegaaGreat
open Go.Eng Go.RowKit Go.Proofs.Tryz
set_option maxRecDepth 20000
set_option maxHeartbeats 20000000
abbrev bg:List Value:=[iv 0,iv 0,iv 0,iv 0,iv 0]
abbrev eH:Array Value:=#[iv 0,iv 0,iv 0,iv 0,iv 0]
structure Unt where
  gM:Int
  gKg:Int
  gS:Int
  gA:Int
  gK:Int
abbrev bu (x:Unt):List Value:=[iv x.gM,iv x.gKg,iv x.gS,iv x.gA,iv x.gK]
abbrev bD (x:Unt):Array Value:=#[iv x.gM,iv x.gKg,iv x.gS,iv x.gA,iv x.gK]
structure Fxd where
  aK:Int
  dQ:Bool
  aT:Int
  aF:Int
  aa:Int
  ah:Int
  ae:Int
  ag:Int
  aj:Int
  ai:Int
def fxdE (x:Fxd):List Value:=[iv x.aK,.bool x.dQ,iv x.aT,iv x.aF,iv x.aa,iv x.ah,iv x.ae,iv x.ag,iv x.aj,iv x.ai]
def cA (w:World) (x:Fxd):Prop:=((-9223372036854775808)≤x.aK∧x.aK≤9223372036854775807)∧((-9223372036854775808)≤x.aT∧x.aT≤9223372036854775807)∧((-9223372036854775808)≤x.aF∧x.aF≤9223372036854775807)∧((-9223372036854775808)≤x.aa∧x.aa≤9223372036854775807)∧((-9223372036854775808)≤x.ah∧x.ah≤9223372036854775807)∧((-9223372036854775808)≤x.ae∧x.ae≤9223372036854775807)∧((-9223372036854775808)≤x.ag∧x.ag≤9223372036854775807)∧((-9223372036854775808)≤x.aj∧x.aj≤9223372036854775807)∧((-9223372036854775808)≤x.ai∧x.ai≤9223372036854775807)∧True
theorem aw {w0 w:World} {L:List Eng.Claim} {x:Fxd} (h:cA w0 x) (S:Sep w0 L w):cA w x:=by
  obtain ⟨hgBits,hgNum,hgOff,hgDen,hgUnit_M,hgUnit_Kg,hgUnit_S,hgUnit_A,hgUnit_K,_⟩:=h
  exact⟨hgBits,hgNum,hgOff,hgDen,hgUnit_M,hgUnit_Kg,hgUnit_S,hgUnit_A,hgUnit_K,trivial⟩
abbrev aN (x:Fxd):List Value:=[iv x.aK,.bool x.dQ,iv x.aT,iv x.aF,iv x.aa,iv x.ah,iv x.ae,iv x.ag,iv x.aj,iv x.ai]
abbrev aI (x:Fxd):Array Value:=#[iv x.aK,.bool x.dQ,iv x.aT,iv x.aF,iv x.aa,iv x.ah,iv x.ae,iv x.ag,iv x.aj,iv x.ai]
abbrev unP (m kg s a k:Int):Prop:=(-9≤m∧m≤9)∧(-9≤kg∧kg≤9)∧(-9≤s∧s≤9)∧(-9≤a∧a≤9)∧(-9≤k∧k≤9)
def unB (u:Unt):Bool:=decide (unP u.gM u.gKg u.gS u.gA u.gK)
theorem bE {u:Unt}:unB u=true↔unP u.gM u.gKg u.gS u.gA u.gK:=by unfold unB;exact decide_eq_true_iff
abbrev un0:Unt:=⟨0,0,0,0,0⟩
def unC (a b:Unt) (s:Int):Unt:=⟨a.gM+s*b.gM,a.gKg+s*b.gKg,a.gS+s*b.gS,a.gA+s*b.gA,a.gK+s*b.gK⟩
def unX (a b:Unt) (s:Int):Unt:=if unB a&&unB b&&unB (unC a b s) then unC a b s else un0
def unE (a b:Unt) (s:Int):Int:=if unB a&&unB b then (if unB (unC a b s) then 0 else 2) else 1
theorem un_bad {a b:Unt} {s:Int} (h:unB a=false∨unB b=false):unX a b s=un0∧unE a b s=1:=by
  unfold unX unE;rcases h with h | h<;>rw[h]<;>simp
theorem un_out {a b:Unt} {s:Int} (ha:unB a=true) (hb:unB b=true) (h:unB (unC a b s)=false):unX a b s=un0∧unE a b s=2:=by
  unfold unX unE;rw[ha,hb,h];simp
theorem un_in {a b:Unt} {s:Int} (ha:unB a=true) (hb:unB b=true) (h:unB (unC a b s)=true):unX a b s=unC a b s∧unE a b s=0:=by
  unfold unX unE;rw[ha,hb,h];simp
def cj (a b:Unt):Bool:=(a.gM==b.gM)&&((a.gKg==b.gKg)&&((a.gS==b.gS)&&((a.gA==b.gA)&&(a.gK==b.gK))))
abbrev dn (bits num off den m kg s a k:Int):Prop:=(bits=8∨bits=16∨bits=32)∧(1≤num∧num≤1048576)∧(1≤den∧den≤1048576)∧(-1073741824≤off∧off≤1073741824)∧unP m kg s a k
def bF (t:Fxd):Bool:=decide (dn t.aK t.aT t.aF t.aa t.ah t.ae t.ag t.aj t.ai)
theorem ew {t:Fxd}:bF t=true↔dn t.aK t.aT t.aF t.aa t.ah t.ae t.ag t.aj t.ai:=by unfold bF;exact decide_eq_true_iff
def az (t:Fxd):Unt:=⟨t.ah,t.ae,t.ag,t.aj,t.ai⟩
abbrev fx0:Fxd:=⟨0,false,0,0,0,0,0,0,0,0⟩
def cQ (op:Int) (a b t:Unt):Bool :=
  if op=5∨op=6 then cj a b&&cj a t else if op=7 then (unE a b 1==0)&&cj (unX a b 1) t else if op=8 then (unE a b (-1)==0)&&cj (unX a b (-1)) t else if op=9∨op=10 then cj a t else cj a b

theorem OK.eqUnt {N:Nat} {K:List Item} {env:Eng.Env} {w:World} (d:Nat) (a b:Unt) (h:eqAt N K env=some (some d,true,52,bD a,bD b)):OK prog N K env w (some d) (.bool (cj a b)) w:=OK.eqS d true 52 _ _ ((a.gM==b.gM)&&((a.gKg==b.gKg)&&((a.gS==b.gS)&&((a.gA==b.gA)&&((a.gK==b.gK)&&true))))) h kr kr _ (by simp[cj])
theorem OK.neUnt {N:Nat} {K:List Item} {env:Eng.Env} {w:World} (d:Nat) (a b:Unt) (h:eqAt N K env=some (some d,false,52,bD a,bD b)):OK prog N K env w (some d) (.bool (!cj a b)) w:=OK.eqS d false 52 _ _ ((a.gM==b.gM)&&((a.gKg==b.gKg)&&((a.gS==b.gS)&&((a.gA==b.gA)&&((a.gK==b.gK)&&true))))) h kr kr _ (by simp[cj])
theorem hb120:af prog 120:=fun _ _=>by kernel_rfl

theorem expo_any (b:Nat) (w:World):Ret prog 120 #[pv b] w (fun v w'=>v=.agg #[pv b,.pointer (some ⟨b,1,none⟩),.pointer (some ⟨b,2,none⟩),.pointer (some ⟨b,3,none⟩),.pointer (some ⟨b,4,none⟩)]∧Sep w [] w'):=by
 refine Ret.st (N:=19) func120 fun R hR S0=>J.nw 2 [] [] [] S0 2 [.pointer none,.pointer none,.pointer none,.pointer none,.pointer none] 143 fun b1 w1 S1=>J.r 2 [] [] []<|J.drawTail S1 16 Tryz.mixed kr kr ?_
 intro w2 S2
 refine SL.r 3 (pv b)<|SL.r 4 (pv b)<|SL.r 5 (pv b)<|SL.r 6 (pv b)<|SL.r 7 (pv b)<|SL.r 8 (.pointer (some ⟨b,1,none⟩))<|SL.r 9 (pv b)<|SL.r 10 (pv b)<|SL.r 11 (.pointer (some ⟨b,2,none⟩))<|SL.r 12 (pv b)<|SL.r 13 (pv b) ?_
 refine SL.r 14 (.pointer (some ⟨b,3,none⟩))<|SL.r 15 (pv b)<|SL.r 16 (pv b)<|SL.r 17 (.pointer (some ⟨b,4,none⟩))<|SL.r 18 (.agg #[pv b,.pointer (some ⟨b,1,none⟩),.pointer (some ⟨b,2,none⟩),.pointer (some ⟨b,3,none⟩),.pointer (some ⟨b,4,none⟩)])<|SL.done<|TL.stBox S2 0 143 0 (.agg #[pv b,.pointer (some ⟨b,1,none⟩),.pointer (some ⟨b,2,none⟩),.pointer (some ⟨b,3,none⟩),.pointer (some ⟨b,4,none⟩)]) [pv b,.pointer (some ⟨b,1,none⟩),.pointer (some ⟨b,2,none⟩),.pointer (some ⟨b,3,none⟩),.pointer (some ⟨b,4,none⟩)] [box b1 [pv b,.pointer (some ⟨b,1,none⟩),.pointer (some ⟨b,2,none⟩),.pointer (some ⟨b,3,none⟩),.pointer (some ⟨b,4,none⟩)] 143] kr rfl kr kr rfl ?_
 intro w3 S3
 exact TL.done kr<|J.ret Tryz.f120 [.agg #[pv b,.pointer (some ⟨b,1,none⟩),.pointer (some ⟨b,2,none⟩),.pointer (some ⟨b,3,none⟩),.pointer (some ⟨b,4,none⟩)]] func120 ⟨⟨⟨b1,0,none⟩,kr,aS (S3.nth 0 rfl) kr⟩,trivial⟩<|hR _ _<|⟨rfl,S3.nil⟩

theorem hb82:af prog 82:=fun _ _=>by kernel_rfl

theorem dM (u:Unt) (w:World):Ret prog 82 #[.agg (bD u)] w (fun v w'=>v=.bool (unB u)∧Sep w [] w'):=by
 refine Ret.st (N:=20) func82 fun R hR S0=>J.nw 2 [] [] [] S0 1 (bu u) 52 fun b1 w1 S1=>J.r 5 [] [] []<|J.c0 0 [] [] [] S1 5 hb120 (expo_any b1 _) fun w2 S2=>J.lb 22 [true] [(4,pv b1),(6,iv 0)] [] S2 0 rfl 11 (iv u.gM)<|J.c 2 [] [] [] 13 (u.gM<(-9)) (fun fk1=>?_) fun fk1=>?_
 refine J.e 11 [.bool false] func82 (hR _ _ ?_)
 exact⟨congrArg Value.bool (decide_eq_false (show ¬ (unP u.gM u.gKg u.gS u.gA u.gK) by omega)).symm,S2.nil⟩
 refine J.lb 2 [] [] [] S2 0 rfl 16 (iv u.gM)<|J.c 3 [] [] [] 18 (u.gM>9) (fun fk2=>?_) fun fk2=>?_
 refine J.e 5 [.bool false] func82 (hR _ _ ?_)
 exact⟨congrArg Value.bool (decide_eq_false (show ¬ (unP u.gM u.gKg u.gS u.gA u.gK) by omega)).symm,S2.nil⟩
 refine J.lb 26 [false,true] [(4,.pointer (some ⟨b1,1,none⟩)),(6,iv 1)] [] S2 0 rfl 11 (iv u.gKg)<|J.c 2 [] [] [13] 13 (u.gKg<(-9)) (fun fk3=>?_) fun fk3=>?_
 refine J.e 11 [.bool false] func82 (hR _ _ ?_)
 exact⟨congrArg Value.bool (decide_eq_false (show ¬ (unP u.gM u.gKg u.gS u.gA u.gK) by omega)).symm,S2.nil⟩
 refine J.lb 2 [] [] [] S2 0 rfl 16 (iv u.gKg)<|J.c 3 [] [] [18] 18 (u.gKg>9) (fun fk4=>?_) fun fk4=>?_
 refine J.e 5 [.bool false] func82 (hR _ _ ?_)
 exact⟨congrArg Value.bool (decide_eq_false (show ¬ (unP u.gM u.gKg u.gS u.gA u.gK) by omega)).symm,S2.nil⟩
 refine J.lb 26 [false,true] [(4,.pointer (some ⟨b1,2,none⟩)),(6,iv 2)] [] S2 0 rfl 11 (iv u.gS)<|J.c 2 [] [] [13] 13 (u.gS<(-9)) (fun fk5=>?_) fun fk5=>?_
 refine J.e 11 [.bool false] func82 (hR _ _ ?_)
 exact⟨congrArg Value.bool (decide_eq_false (show ¬ (unP u.gM u.gKg u.gS u.gA u.gK) by omega)).symm,S2.nil⟩
 refine J.lb 2 [] [] [] S2 0 rfl 16 (iv u.gS)<|J.c 3 [] [] [18] 18 (u.gS>9) (fun fk6=>?_) fun fk6=>?_
 refine J.e 5 [.bool false] func82 (hR _ _ ?_)
 exact⟨congrArg Value.bool (decide_eq_false (show ¬ (unP u.gM u.gKg u.gS u.gA u.gK) by omega)).symm,S2.nil⟩
 refine J.lb 26 [false,true] [(4,.pointer (some ⟨b1,3,none⟩)),(6,iv 3)] [] S2 0 rfl 11 (iv u.gA)<|J.c 2 [] [] [13] 13 (u.gA<(-9)) (fun fk7=>?_) fun fk7=>?_
 refine J.e 11 [.bool false] func82 (hR _ _ ?_)
 exact⟨congrArg Value.bool (decide_eq_false (show ¬ (unP u.gM u.gKg u.gS u.gA u.gK) by omega)).symm,S2.nil⟩
 refine J.lb 2 [] [] [] S2 0 rfl 16 (iv u.gA)<|J.c 3 [] [] [18] 18 (u.gA>9) (fun fk8=>?_) fun fk8=>?_
 refine J.e 5 [.bool false] func82 (hR _ _ ?_)
 exact⟨congrArg Value.bool (decide_eq_false (show ¬ (unP u.gM u.gKg u.gS u.gA u.gK) by omega)).symm,S2.nil⟩
 refine J.lb 26 [false,true] [(4,.pointer (some ⟨b1,4,none⟩)),(6,iv 4)] [] S2 0 rfl 11 (iv u.gK)<|J.c 2 [] [] [13] 13 (u.gK<(-9)) (fun fk9=>?_) fun fk9=>?_
 refine J.e 11 [.bool false] func82 (hR _ _ ?_)
 exact⟨congrArg Value.bool (decide_eq_false (show ¬ (unP u.gM u.gKg u.gS u.gA u.gK) by omega)).symm,S2.nil⟩
 refine J.lb 2 [] [] [] S2 0 rfl 16 (iv u.gK)<|J.c 3 [] [] [18] 18 (u.gK>9) (fun fk10=>?_) fun fk10=>?_
 refine J.e 5 [.bool false] func82 (hR _ _ ?_)
 exact⟨congrArg Value.bool (decide_eq_false (show ¬ (unP u.gM u.gKg u.gS u.gA u.gK) by omega)).symm,S2.nil⟩
 refine J.e 19 [.bool true] func82 (hR _ _ ?_)
 exact⟨congrArg Value.bool (decide_eq_true (show unP u.gM u.gKg u.gS u.gA u.gK by omega)).symm,S2.nil⟩

theorem hb108:af prog 108:=fun _ _=>by kernel_rfl

theorem list_any (u:Unt) (w:World):Ret prog 108 #[.agg (bD u)] w (fun v w'=>∃ b,v=.slice (some ⟨b,0,none⟩) 5 5∧Sep w [box b (bu u) 3] w'):=by
 refine Ret.st (N:=14) func108 fun R hR S0=>J.nw 2 [] [] [] S0 1 (bu u) 52 fun b1 w1 S1=>J.lb 5 [] [] [] S1 0 rfl 4 (iv u.gM)<|J.lb 1 [] [] [] S1 0 rfl 6 (iv u.gKg)<|J.lb 1 [] [] [] S1 0 rfl 8 (iv u.gS)<|J.lb 1 [] [] [] S1 0 rfl 10 (iv u.gA)<|J.lb 1 [] [] [] S1 0 rfl 12 (iv u.gK)<|J.newSlice S1 13 5 (bu u) 3 kr ?_
 intro b2 w2 S2
 refine J.e 2 [.slice (some ⟨b2,0,none⟩) 5 5] func108 (hR _ _ ?_)
 exact⟨_,rfl,S2.pick 0 rfl⟩

theorem hb107:af prog 107:=fun _ _=>by kernel_rfl

theorem eK (u:Unt) (w:World):Ret prog 107 #[.agg (bD u)] w (fun v w'=>v=.bool (unB u)∧Sep w [] w'):=by
 refine Ret.st (N:=23) func107 fun R hR S0=>J.nw 2 [] [] [] S0 1 (bu u) 52 fun b1 w1 S1=>J.lb 4 [] [] [] S1 0 rfl 5 (.agg (bD u))<|J.callF 6 108 #[.agg (bD u)] hb108 kr (list_any u _) ?_
 rintro _ w2 ⟨b2,rfl,T1⟩
 have S2:Sep w [box b2 (bu u) 3,box b1 (bu u) 52] w2:=S1.trans T1
 refine J.r 23 [true] [(12,iv 0),(11,.slice (some ⟨b2,0,none⟩) 5 5),(4,iv 0),(3,.slice (some ⟨b2,0,none⟩) 5 5)] []<|J.ok (OK.index 13 26 1 (some ⟨b2,0,none⟩) ⟨b2,0,none⟩ 5 0 0 ⟨b2,0,none⟩ kr kr rfl om om rF)<|J.lb 0 [] [] [] S2 0 rfl 14 (iv u.gM)<|J.c 2 [] [] [] 16 (u.gM<(-9)) (fun fk1=>?_) fun fk1=>?_
 refine J.e 12 [.bool false] func107 (hR _ _ ?_)
 exact⟨congrArg Value.bool (decide_eq_false (show ¬ (unP u.gM u.gKg u.gS u.gA u.gK) by omega)).symm,S2.nil⟩
 refine J.r 2 [] [(18,iv 0),(17,.slice (some ⟨b2,0,none⟩) 5 5)] []<|J.ok (OK.index 19 26 1 (some ⟨b2,0,none⟩) ⟨b2,0,none⟩ 5 0 0 ⟨b2,0,none⟩ kr kr rfl om om rF)<|J.lb 0 [] [] [] S2 0 rfl 20 (iv u.gM)<|J.c 3 [] [] [] 22 (u.gM>9) (fun fk2=>?_) fun fk2=>?_
 refine J.e 5 [.bool false] func107 (hR _ _ ?_)
 exact⟨congrArg Value.bool (decide_eq_false (show ¬ (unP u.gM u.gKg u.gS u.gA u.gK) by omega)).symm,S2.nil⟩
 refine J.r 23 [false,true] [(12,iv 1),(11,.slice (some ⟨b2,0,none⟩) 5 5),(4,iv 1)] []<|J.ok (OK.index 13 26 1 (some ⟨b2,0,none⟩) ⟨b2,0,none⟩ 5 1 1 ⟨b2,1,none⟩ kr kr rfl om om rF)<|J.lb 0 [] [] [] S2 0 rfl 14 (iv u.gKg)<|J.c 2 [] [] [16] 16 (u.gKg<(-9)) (fun fk3=>?_) fun fk3=>?_
 refine J.e 12 [.bool false] func107 (hR _ _ ?_)
 exact⟨congrArg Value.bool (decide_eq_false (show ¬ (unP u.gM u.gKg u.gS u.gA u.gK) by omega)).symm,S2.nil⟩
 refine J.r 2 [] [(18,iv 1),(17,.slice (some ⟨b2,0,none⟩) 5 5)] []<|J.ok (OK.index 19 26 1 (some ⟨b2,0,none⟩) ⟨b2,0,none⟩ 5 1 1 ⟨b2,1,none⟩ kr kr rfl om om rF)<|J.lb 0 [] [] [] S2 0 rfl 20 (iv u.gKg)<|J.c 3 [] [] [22] 22 (u.gKg>9) (fun fk4=>?_) fun fk4=>?_
 refine J.e 5 [.bool false] func107 (hR _ _ ?_)
 exact⟨congrArg Value.bool (decide_eq_false (show ¬ (unP u.gM u.gKg u.gS u.gA u.gK) by omega)).symm,S2.nil⟩
 refine J.r 23 [false,true] [(12,iv 2),(11,.slice (some ⟨b2,0,none⟩) 5 5),(4,iv 2)] []<|J.ok (OK.index 13 26 1 (some ⟨b2,0,none⟩) ⟨b2,0,none⟩ 5 2 2 ⟨b2,2,none⟩ kr kr rfl om om rF)<|J.lb 0 [] [] [] S2 0 rfl 14 (iv u.gS)<|J.c 2 [] [] [16] 16 (u.gS<(-9)) (fun fk5=>?_) fun fk5=>?_
 refine J.e 12 [.bool false] func107 (hR _ _ ?_)
 exact⟨congrArg Value.bool (decide_eq_false (show ¬ (unP u.gM u.gKg u.gS u.gA u.gK) by omega)).symm,S2.nil⟩
 refine J.r 2 [] [(18,iv 2),(17,.slice (some ⟨b2,0,none⟩) 5 5)] []<|J.ok (OK.index 19 26 1 (some ⟨b2,0,none⟩) ⟨b2,0,none⟩ 5 2 2 ⟨b2,2,none⟩ kr kr rfl om om rF)<|J.lb 0 [] [] [] S2 0 rfl 20 (iv u.gS)<|J.c 3 [] [] [22] 22 (u.gS>9) (fun fk6=>?_) fun fk6=>?_
 refine J.e 5 [.bool false] func107 (hR _ _ ?_)
 exact⟨congrArg Value.bool (decide_eq_false (show ¬ (unP u.gM u.gKg u.gS u.gA u.gK) by omega)).symm,S2.nil⟩
 refine J.r 23 [false,true] [(12,iv 3),(11,.slice (some ⟨b2,0,none⟩) 5 5),(4,iv 3)] []<|J.ok (OK.index 13 26 1 (some ⟨b2,0,none⟩) ⟨b2,0,none⟩ 5 3 3 ⟨b2,3,none⟩ kr kr rfl om om rF)<|J.lb 0 [] [] [] S2 0 rfl 14 (iv u.gA)<|J.c 2 [] [] [16] 16 (u.gA<(-9)) (fun fk7=>?_) fun fk7=>?_
 refine J.e 12 [.bool false] func107 (hR _ _ ?_)
 exact⟨congrArg Value.bool (decide_eq_false (show ¬ (unP u.gM u.gKg u.gS u.gA u.gK) by omega)).symm,S2.nil⟩
 refine J.r 2 [] [(18,iv 3),(17,.slice (some ⟨b2,0,none⟩) 5 5)] []<|J.ok (OK.index 19 26 1 (some ⟨b2,0,none⟩) ⟨b2,0,none⟩ 5 3 3 ⟨b2,3,none⟩ kr kr rfl om om rF)<|J.lb 0 [] [] [] S2 0 rfl 20 (iv u.gA)<|J.c 3 [] [] [22] 22 (u.gA>9) (fun fk8=>?_) fun fk8=>?_
 refine J.e 5 [.bool false] func107 (hR _ _ ?_)
 exact⟨congrArg Value.bool (decide_eq_false (show ¬ (unP u.gM u.gKg u.gS u.gA u.gK) by omega)).symm,S2.nil⟩
 refine J.r 23 [false,true] [(12,iv 4),(11,.slice (some ⟨b2,0,none⟩) 5 5),(4,iv 4)] []<|J.ok (OK.index 13 26 1 (some ⟨b2,0,none⟩) ⟨b2,0,none⟩ 5 4 4 ⟨b2,4,none⟩ kr kr rfl om om rF)<|J.lb 0 [] [] [] S2 0 rfl 14 (iv u.gK)<|J.c 2 [] [] [16] 16 (u.gK<(-9)) (fun fk9=>?_) fun fk9=>?_
 refine J.e 12 [.bool false] func107 (hR _ _ ?_)
 exact⟨congrArg Value.bool (decide_eq_false (show ¬ (unP u.gM u.gKg u.gS u.gA u.gK) by omega)).symm,S2.nil⟩
 refine J.r 2 [] [(18,iv 4),(17,.slice (some ⟨b2,0,none⟩) 5 5)] []<|J.ok (OK.index 19 26 1 (some ⟨b2,0,none⟩) ⟨b2,0,none⟩ 5 4 4 ⟨b2,4,none⟩ kr kr rfl om om rF)<|J.lb 0 [] [] [] S2 0 rfl 20 (iv u.gK)<|J.c 3 [] [] [22] 22 (u.gK>9) (fun fk10=>?_) fun fk10=>?_
 refine J.e 5 [.bool false] func107 (hR _ _ ?_)
 exact⟨congrArg Value.bool (decide_eq_false (show ¬ (unP u.gM u.gKg u.gS u.gA u.gK) by omega)).symm,S2.nil⟩
 refine J.e 21 [.bool true] func107 (hR _ _ ?_)
 exact⟨congrArg Value.bool (decide_eq_true (show unP u.gM u.gKg u.gS u.gA u.gK by omega)).symm,S2.nil⟩

theorem hb109:af prog 109:=fun _ _=>by kernel_rfl

theorem of_any (la:Option Addr) (len cap:Nat) (l:List Int) (w:World) (hI:dj w la len l) (hlen:len=5):Ret prog 109 #[.slice la len cap] w (fun v w'=>v=.agg #[iv (l.getD 0 0),iv (l.getD 1 0),iv (l.getD 2 0),iv (l.getD 3 0),iv (l.getD 4 0)]∧Sep w [] w'):=by
 refine Ret.st (N:=19) func109 fun R hR S0=>?_
 have hll:=hI.len_eq
 refine J.nw 2 [] [] [] S0 2 bg 52 fun b1 w1 S1=>J.r 2 [] [] [] ?_
 obtain ⟨p1,hp1,hc1⟩:=hI.at 0 0 om
 obtain ⟨p2,hp2,hc2⟩:=hI.at 0 1 om
 obtain ⟨p3,hp3,hc3⟩:=hI.at 0 2 om
 obtain ⟨p4,hp4,hc4⟩:=hI.at 0 3 om
 obtain ⟨p5,hp5,hc5⟩:=hI.at 0 4 om
 refine J.drawTail S1 16 Tryz.mixed kr kr ?_
 intro w2 S2
 refine SL.r 3 (.slice la len cap)<|SL.ok dE (OK.index 4 26 1 la p1 len 0 0 (p1.add 0) kr kr hp1 om om nO)<|SL.ok dE (OK.ldCell 5 3 (p1.add 0) (iv (l.getD 0 0)) kr kr (S2.cell hc1))<|SL.r 6 (.slice la len cap)<|SL.ok dE (OK.index 7 26 1 la p2 len 1 1 (p2.add 1) kr kr hp2 om om nO)<|SL.ok dE (OK.ldCell 8 3 (p2.add 1) (iv (l.getD 1 0)) kr kr (S2.cell hc2))<|SL.r 9 (.slice la len cap)<|SL.ok dE (OK.index 10 26 1 la p3 len 2 2 (p3.add 2) kr kr hp3 om om nO)<|SL.ok dE (OK.ldCell 11 3 (p3.add 2) (iv (l.getD 2 0)) kr kr (S2.cell hc3))<|SL.r 12 (.slice la len cap)<|SL.ok dE (OK.index 13 26 1 la p4 len 3 3 (p4.add 3) kr kr hp4 om om nO) ?_
 refine SL.ok dE (OK.ldCell 14 3 (p4.add 3) (iv (l.getD 3 0)) kr kr (S2.cell hc4))<|SL.r 15 (.slice la len cap)<|SL.ok dE (OK.index 16 26 1 la p5 len 4 4 (p5.add 4) kr kr hp5 om om nO)<|SL.ok dE (OK.ldCell 17 3 (p5.add 4) (iv (l.getD 4 0)) kr kr (S2.cell hc5))<|SL.r 18 (.agg #[iv (l.getD 0 0),iv (l.getD 1 0),iv (l.getD 2 0),iv (l.getD 3 0),iv (l.getD 4 0)])<|SL.done<|TL.stBox S2 0 52 0 (.agg #[iv (l.getD 0 0),iv (l.getD 1 0),iv (l.getD 2 0),iv (l.getD 3 0),iv (l.getD 4 0)]) [iv (l.getD 0 0),iv (l.getD 1 0),iv (l.getD 2 0),iv (l.getD 3 0),iv (l.getD 4 0)] [box b1 [iv (l.getD 0 0),iv (l.getD 1 0),iv (l.getD 2 0),iv (l.getD 3 0),iv (l.getD 4 0)] 52] kr rfl kr kr rfl ?_
 intro w3 S3
 exact TL.done kr<|J.ret Tryz.f109 [.agg #[iv (l.getD 0 0),iv (l.getD 1 0),iv (l.getD 2 0),iv (l.getD 3 0),iv (l.getD 4 0)]] func109 ⟨⟨⟨b1,0,none⟩,kr,aS (S3.nth 0 rfl) kr⟩,trivial⟩<|hR _ _<|⟨rfl,S3.nil⟩

theorem hb154:af prog 154:=fun _ _=>by kernel_rfl

theorem ucomb_any (a b:Unt) (w:World):Ret prog 154 #[.agg (bD a),.agg (bD b),iv 1] w (fun v w'=>v=.tuple #[.agg #[iv (unX a b 1).gM,iv (unX a b 1).gKg,iv (unX a b 1).gS,iv (unX a b 1).gA,iv (unX a b 1).gK],iv (unE a b 1)]∧Sep w [] w'):=by
 refine Ret.st (N:=45) func154 fun R hR S0=>J.nw 2 [] [] [] S0 3 (bu a) 52 fun b1 w1 S1=>J.nw 0 [] [] [] S1 4 (bu b) 52 fun b2 w2 S2=>J.nw 0 [] [] [] S2 6 bg 52 fun b3 w3 S3=>J.lb 5 [] [] [] S3 2 rfl 11 (.agg (bD a))<|J.c0 0 [] [] [] S3 12 hb82 (dM a _) fun w4 S4=>J.bn 2 [] [] [] 14 (unB a) (fun fk1=>?_) fun fk1=>?_
 have fb1:=bE.1 fk1
 try dsimp only at fb1
 refine J.lb 0 [] [] [] S4 1 rfl 15 (.agg (bD b))<|J.c0 0 [] [] [] S4 16 hb82 (dM b _) fun w5 S5=>J.bn 3 [] [] [] 18 (unB b) (fun fk2=>?_) fun fk2=>?_
 have fb2:=bE.1 fk2
 try dsimp only at fb2
 refine J.r 4 [false] [] []<|J.c0 0 [] [] [] S5 20 hb120 (expo_any b1 _) fun w6 S6=>J.c0 0 [] [] [] S6 21 hb120 (expo_any b2 _) fun w7 S7=>J.nw 0 [] [] [] S7 8 [.pointer none,.pointer none,.pointer none,.pointer none,.pointer none] 143 fun b4 w8 S8=>J.nw 0 [] [] [] S8 9 [.pointer none,.pointer none,.pointer none,.pointer none,.pointer none] 143 fun b5 w9 S9=>J.sb 0 [] [] [] S9 1 rfl [pv b1,.pointer (some ⟨b1,1,none⟩),.pointer (some ⟨b1,2,none⟩),.pointer (some ⟨b1,3,none⟩),.pointer (some ⟨b1,4,none⟩)] rfl fun w10 S10=>J.sb 0 [] [] [] S10 0 rfl [pv b2,.pointer (some ⟨b2,1,none⟩),.pointer (some ⟨b2,2,none⟩),.pointer (some ⟨b2,3,none⟩),.pointer (some ⟨b2,4,none⟩)] rfl fun w11 S11=>J.r 22 [true] [(10,iv 0),(22,iv 0)] []<|J.drawTail S11 14 Tryz.mixed kr kr ?_
 intro w12 S12
 refine SL.r 25 (iv 0)<|SL.ok dE (OK.indexP 26 143 5 1 b4 0 0 0 kr kr om om)<|SL.head (pv b4) zO<|SL.lb S12 1 rfl 27 (pv b1)<|SL.r 28 (pv b1)<|SL.lb S12 4 rfl 29 (iv a.gM)<|SL.r 30 (iv 1)<|SL.r 31 (iv 0)<|SL.ok dE (OK.indexP 32 143 5 1 b5 0 0 0 kr kr om om)<|SL.head (pv b5) zO<|SL.lb S12 0 rfl 33 (pv b2) ?_
 refine SL.r 34 (pv b2)<|SL.lb S12 3 rfl 35 (iv b.gM)<|SL.r 36 (iv (IntKind.wrap .i64 (1*b.gM)))<|SL.head (iv (1*b.gM)) (congrArg (Value.int .i64) (IntWalk.i64_in _ om))<|SL.r 37 (iv (IntKind.wrap .i64 (a.gM+(1*b.gM))))<|SL.head (iv (a.gM+(1*b.gM))) (congrArg (Value.int .i64) (IntWalk.i64_in _ om))<|SL.r 38 (pv b1)<|SL.done<|TL.stBox S12 4 3 0 (iv (a.gM+(1*b.gM))) [iv (a.gM+(1*b.gM)),iv a.gKg,iv a.gS,iv a.gA,iv a.gK] [box b5 [pv b2,.pointer (some ⟨b2,1,none⟩),.pointer (some ⟨b2,2,none⟩),.pointer (some ⟨b2,3,none⟩),.pointer (some ⟨b2,4,none⟩)] 143,box b4 [pv b1,.pointer (some ⟨b1,1,none⟩),.pointer (some ⟨b1,2,none⟩),.pointer (some ⟨b1,3,none⟩),.pointer (some ⟨b1,4,none⟩)] 143,box b3 bg 52,box b2 (bu b) 52,box b1 [iv (a.gM+(1*b.gM)),iv a.gKg,iv a.gS,iv a.gA,iv a.gK] 52] kr rfl kr kr rfl ?_
 intro w13 S13
 refine TL.done kr<|J.r 20 [true] [(10,iv 1),(22,iv 1)] []<|J.drawTail S13 14 Tryz.mixed kr kr ?_
 intro w14 S14
 refine SL.r 25 (iv 1)<|SL.ok dE (OK.indexP 26 143 5 1 b4 0 1 1 kr kr om om)<|SL.head (.pointer (some ⟨b4,1,none⟩)) zO<|SL.lb S14 1 rfl 27 (.pointer (some ⟨b1,1,none⟩))<|SL.r 28 (.pointer (some ⟨b1,1,none⟩))<|SL.lb S14 4 rfl 29 (iv a.gKg)<|SL.r 30 (iv 1)<|SL.r 31 (iv 1)<|SL.ok dE (OK.indexP 32 143 5 1 b5 0 1 1 kr kr om om)<|SL.head (.pointer (some ⟨b5,1,none⟩)) zO<|SL.lb S14 0 rfl 33 (.pointer (some ⟨b2,1,none⟩)) ?_
 refine SL.r 34 (.pointer (some ⟨b2,1,none⟩))<|SL.lb S14 3 rfl 35 (iv b.gKg)<|SL.r 36 (iv (IntKind.wrap .i64 (1*b.gKg)))<|SL.head (iv (1*b.gKg)) (congrArg (Value.int .i64) (IntWalk.i64_in _ om))<|SL.r 37 (iv (IntKind.wrap .i64 (a.gKg+(1*b.gKg))))<|SL.head (iv (a.gKg+(1*b.gKg))) (congrArg (Value.int .i64) (IntWalk.i64_in _ om))<|SL.r 38 (.pointer (some ⟨b1,1,none⟩))<|SL.done<|TL.stBox S14 4 3 1 (iv (a.gKg+(1*b.gKg))) [iv (a.gM+(1*b.gM)),iv (a.gKg+(1*b.gKg)),iv a.gS,iv a.gA,iv a.gK] [box b5 [pv b2,.pointer (some ⟨b2,1,none⟩),.pointer (some ⟨b2,2,none⟩),.pointer (some ⟨b2,3,none⟩),.pointer (some ⟨b2,4,none⟩)] 143,box b4 [pv b1,.pointer (some ⟨b1,1,none⟩),.pointer (some ⟨b1,2,none⟩),.pointer (some ⟨b1,3,none⟩),.pointer (some ⟨b1,4,none⟩)] 143,box b3 bg 52,box b2 (bu b) 52,box b1 [iv (a.gM+(1*b.gM)),iv (a.gKg+(1*b.gKg)),iv a.gS,iv a.gA,iv a.gK] 52] kr rfl kr kr rfl ?_
 intro w15 S15
 refine TL.done kr<|J.r 20 [true] [(10,iv 2),(22,iv 2)] []<|J.drawTail S15 14 Tryz.mixed kr kr ?_
 intro w16 S16
 refine SL.r 25 (iv 2)<|SL.ok dE (OK.indexP 26 143 5 1 b4 0 2 2 kr kr om om)<|SL.head (.pointer (some ⟨b4,2,none⟩)) zO<|SL.lb S16 1 rfl 27 (.pointer (some ⟨b1,2,none⟩))<|SL.r 28 (.pointer (some ⟨b1,2,none⟩))<|SL.lb S16 4 rfl 29 (iv a.gS)<|SL.r 30 (iv 1)<|SL.r 31 (iv 2)<|SL.ok dE (OK.indexP 32 143 5 1 b5 0 2 2 kr kr om om)<|SL.head (.pointer (some ⟨b5,2,none⟩)) zO<|SL.lb S16 0 rfl 33 (.pointer (some ⟨b2,2,none⟩)) ?_
 refine SL.r 34 (.pointer (some ⟨b2,2,none⟩))<|SL.lb S16 3 rfl 35 (iv b.gS)<|SL.r 36 (iv (IntKind.wrap .i64 (1*b.gS)))<|SL.head (iv (1*b.gS)) (congrArg (Value.int .i64) (IntWalk.i64_in _ om))<|SL.r 37 (iv (IntKind.wrap .i64 (a.gS+(1*b.gS))))<|SL.head (iv (a.gS+(1*b.gS))) (congrArg (Value.int .i64) (IntWalk.i64_in _ om))<|SL.r 38 (.pointer (some ⟨b1,2,none⟩))<|SL.done<|TL.stBox S16 4 3 2 (iv (a.gS+(1*b.gS))) [iv (a.gM+(1*b.gM)),iv (a.gKg+(1*b.gKg)),iv (a.gS+(1*b.gS)),iv a.gA,iv a.gK] [box b5 [pv b2,.pointer (some ⟨b2,1,none⟩),.pointer (some ⟨b2,2,none⟩),.pointer (some ⟨b2,3,none⟩),.pointer (some ⟨b2,4,none⟩)] 143,box b4 [pv b1,.pointer (some ⟨b1,1,none⟩),.pointer (some ⟨b1,2,none⟩),.pointer (some ⟨b1,3,none⟩),.pointer (some ⟨b1,4,none⟩)] 143,box b3 bg 52,box b2 (bu b) 52,box b1 [iv (a.gM+(1*b.gM)),iv (a.gKg+(1*b.gKg)),iv (a.gS+(1*b.gS)),iv a.gA,iv a.gK] 52] kr rfl kr kr rfl ?_
 intro w17 S17
 refine TL.done kr<|J.r 20 [true] [(10,iv 3),(22,iv 3)] []<|J.drawTail S17 14 Tryz.mixed kr kr ?_
 intro w18 S18
 refine SL.r 25 (iv 3)<|SL.ok dE (OK.indexP 26 143 5 1 b4 0 3 3 kr kr om om)<|SL.head (.pointer (some ⟨b4,3,none⟩)) zO<|SL.lb S18 1 rfl 27 (.pointer (some ⟨b1,3,none⟩))<|SL.r 28 (.pointer (some ⟨b1,3,none⟩))<|SL.lb S18 4 rfl 29 (iv a.gA)<|SL.r 30 (iv 1)<|SL.r 31 (iv 3)<|SL.ok dE (OK.indexP 32 143 5 1 b5 0 3 3 kr kr om om)<|SL.head (.pointer (some ⟨b5,3,none⟩)) zO<|SL.lb S18 0 rfl 33 (.pointer (some ⟨b2,3,none⟩)) ?_
 refine SL.r 34 (.pointer (some ⟨b2,3,none⟩))<|SL.lb S18 3 rfl 35 (iv b.gA)<|SL.r 36 (iv (IntKind.wrap .i64 (1*b.gA)))<|SL.head (iv (1*b.gA)) (congrArg (Value.int .i64) (IntWalk.i64_in _ om))<|SL.r 37 (iv (IntKind.wrap .i64 (a.gA+(1*b.gA))))<|SL.head (iv (a.gA+(1*b.gA))) (congrArg (Value.int .i64) (IntWalk.i64_in _ om))<|SL.r 38 (.pointer (some ⟨b1,3,none⟩))<|SL.done<|TL.stBox S18 4 3 3 (iv (a.gA+(1*b.gA))) [iv (a.gM+(1*b.gM)),iv (a.gKg+(1*b.gKg)),iv (a.gS+(1*b.gS)),iv (a.gA+(1*b.gA)),iv a.gK] [box b5 [pv b2,.pointer (some ⟨b2,1,none⟩),.pointer (some ⟨b2,2,none⟩),.pointer (some ⟨b2,3,none⟩),.pointer (some ⟨b2,4,none⟩)] 143,box b4 [pv b1,.pointer (some ⟨b1,1,none⟩),.pointer (some ⟨b1,2,none⟩),.pointer (some ⟨b1,3,none⟩),.pointer (some ⟨b1,4,none⟩)] 143,box b3 bg 52,box b2 (bu b) 52,box b1 [iv (a.gM+(1*b.gM)),iv (a.gKg+(1*b.gKg)),iv (a.gS+(1*b.gS)),iv (a.gA+(1*b.gA)),iv a.gK] 52] kr rfl kr kr rfl ?_
 intro w19 S19
 refine TL.done kr<|J.r 20 [true] [(10,iv 4),(22,iv 4)] []<|J.drawTail S19 14 Tryz.mixed kr kr ?_
 intro w20 S20
 refine SL.r 25 (iv 4)<|SL.ok dE (OK.indexP 26 143 5 1 b4 0 4 4 kr kr om om)<|SL.head (.pointer (some ⟨b4,4,none⟩)) zO<|SL.lb S20 1 rfl 27 (.pointer (some ⟨b1,4,none⟩))<|SL.r 28 (.pointer (some ⟨b1,4,none⟩))<|SL.lb S20 4 rfl 29 (iv a.gK)<|SL.r 30 (iv 1)<|SL.r 31 (iv 4)<|SL.ok dE (OK.indexP 32 143 5 1 b5 0 4 4 kr kr om om)<|SL.head (.pointer (some ⟨b5,4,none⟩)) zO<|SL.lb S20 0 rfl 33 (.pointer (some ⟨b2,4,none⟩)) ?_
 refine SL.r 34 (.pointer (some ⟨b2,4,none⟩))<|SL.lb S20 3 rfl 35 (iv b.gK)<|SL.r 36 (iv (IntKind.wrap .i64 (1*b.gK)))<|SL.head (iv (1*b.gK)) (congrArg (Value.int .i64) (IntWalk.i64_in _ om))<|SL.r 37 (iv (IntKind.wrap .i64 (a.gK+(1*b.gK))))<|SL.head (iv (a.gK+(1*b.gK))) (congrArg (Value.int .i64) (IntWalk.i64_in _ om))<|SL.r 38 (.pointer (some ⟨b1,4,none⟩))<|SL.done<|TL.stBox S20 4 3 4 (iv (a.gK+(1*b.gK))) [iv (a.gM+(1*b.gM)),iv (a.gKg+(1*b.gKg)),iv (a.gS+(1*b.gS)),iv (a.gA+(1*b.gA)),iv (a.gK+(1*b.gK))] [box b5 [pv b2,.pointer (some ⟨b2,1,none⟩),.pointer (some ⟨b2,2,none⟩),.pointer (some ⟨b2,3,none⟩),.pointer (some ⟨b2,4,none⟩)] 143,box b4 [pv b1,.pointer (some ⟨b1,1,none⟩),.pointer (some ⟨b1,2,none⟩),.pointer (some ⟨b1,3,none⟩),.pointer (some ⟨b1,4,none⟩)] 143,box b3 bg 52,box b2 (bu b) 52,box b1 [iv (a.gM+(1*b.gM)),iv (a.gKg+(1*b.gKg)),iv (a.gS+(1*b.gS)),iv (a.gA+(1*b.gA)),iv (a.gK+(1*b.gK))] 52] kr rfl kr kr rfl ?_
 intro w21 S21
 refine TL.done kr<|J.lb 16 [false] [] [22] S21 4 rfl 40 (.agg #[iv (a.gM+(1*b.gM)),iv (a.gKg+(1*b.gKg)),iv (a.gS+(1*b.gS)),iv (a.gA+(1*b.gA)),iv (a.gK+(1*b.gK))])<|J.c0 0 [] [] [] S21 41 hb82 (dM (⟨a.gM+(1*b.gM),a.gKg+(1*b.gKg),a.gS+(1*b.gS),a.gA+(1*b.gA),a.gK+(1*b.gK)⟩:Unt) _) fun w22 S22=>J.bn 2 [] [] [] 42 (unB (⟨a.gM+(1*b.gM),a.gKg+(1*b.gKg),a.gS+(1*b.gS),a.gA+(1*b.gA),a.gK+(1*b.gK)⟩:Unt)) (fun fk3=>?_) fun fk3=>?_
 have fb3:=bE.1 fk3
 try dsimp only at fb3
 refine J.lb 4 [false] [] [] S22 4 rfl 44 (.agg #[iv (a.gM+(1*b.gM)),iv (a.gKg+(1*b.gKg)),iv (a.gS+(1*b.gS)),iv (a.gA+(1*b.gA)),iv (a.gK+(1*b.gK))])<|J.sb 0 [] [] [] S22 2 rfl [iv (a.gM+(1*b.gM)),iv (a.gKg+(1*b.gKg)),iv (a.gS+(1*b.gS)),iv (a.gA+(1*b.gA)),iv (a.gK+(1*b.gK))] rfl fun w23 S23=>J.r 2 [] [(7,iv 0)] []<|J.ret Tryz.f154 [.agg #[iv (a.gM+(1*b.gM)),iv (a.gKg+(1*b.gKg)),iv (a.gS+(1*b.gS)),iv (a.gA+(1*b.gA)),iv (a.gK+(1*b.gK))],iv 0] func154 ⟨⟨⟨b3,0,none⟩,kr,aS (S23.nth 2 rfl) kr⟩,kr,trivial⟩<|hR _ _ ?_
 obtain ⟨e1,e2⟩:=un_in (a:=a) (b:=b) (s:=1) fk1 fk2 fk3
 exact⟨by rw[e1,e2];rfl,S23.nil⟩
 have fb4:=mt bE.2 (by rw[fk3];decide)
 try dsimp only at fb4
 refine J.sb 4 [true] [] [] S22 2 rfl bg rfl fun w24 S24=>J.r 2 [] [(7,iv 2)] []<|J.ret Tryz.f154 [.agg eH,iv 2] func154 ⟨⟨⟨b3,0,none⟩,kr,aS (S24.nth 2 rfl) kr⟩,kr,trivial⟩<|hR _ _ ?_
 obtain ⟨e1,e2⟩:=un_out (a:=a) (b:=b) (s:=1) fk1 fk2 fk3
 exact⟨by rw[e1,e2];rfl,S24.nil⟩
 have fb5:=mt bE.2 (by rw[fk2];decide)
 try dsimp only at fb5
 refine J.sb 4 [true] [] [] S5 0 rfl bg rfl fun w25 S25=>J.r 2 [] [(7,iv 1)] []<|J.ret Tryz.f154 [.agg eH,iv 1] func154 ⟨⟨⟨b3,0,none⟩,kr,aS (S25.nth 0 rfl) kr⟩,kr,trivial⟩<|hR _ _ ?_
 obtain ⟨e1,e2⟩:=un_bad (a:=a) (b:=b) (s:=1) (by first | exact .inl fk2 | exact .inr fk2)
 exact⟨by rw[e1,e2];rfl,S25.nil⟩
 have fb6:=mt bE.2 (by rw[fk1];decide)
 try dsimp only at fb6
 refine J.sb 9 [true] [] [] S4 0 rfl bg rfl fun w26 S26=>J.r 2 [] [(7,iv 1)] []<|J.ret Tryz.f154 [.agg eH,iv 1] func154 ⟨⟨⟨b3,0,none⟩,kr,aS (S26.nth 0 rfl) kr⟩,kr,trivial⟩<|hR _ _ ?_
 obtain ⟨e1,e2⟩:=un_bad (a:=a) (b:=b) (s:=1) (by first | exact .inl fk1 | exact .inr fk1)
 exact⟨by rw[e1,e2];rfl,S26.nil⟩

theorem ucombm_any (a b:Unt) (w:World):Ret prog 154 #[.agg (bD a),.agg (bD b),iv (-1)] w (fun v w'=>v=.tuple #[.agg #[iv (unX a b (-1)).gM,iv (unX a b (-1)).gKg,iv (unX a b (-1)).gS,iv (unX a b (-1)).gA,iv (unX a b (-1)).gK],iv (unE a b (-1))]∧Sep w [] w'):=by
 refine Ret.st (N:=45) func154 fun R hR S0=>J.nw 2 [] [] [] S0 3 (bu a) 52 fun b1 w1 S1=>J.nw 0 [] [] [] S1 4 (bu b) 52 fun b2 w2 S2=>J.nw 0 [] [] [] S2 6 bg 52 fun b3 w3 S3=>J.lb 5 [] [] [] S3 2 rfl 11 (.agg (bD a))<|J.c0 0 [] [] [] S3 12 hb82 (dM a _) fun w4 S4=>J.bn 2 [] [] [] 14 (unB a) (fun fk1=>?_) fun fk1=>?_
 have fb1:=bE.1 fk1
 try dsimp only at fb1
 refine J.lb 0 [] [] [] S4 1 rfl 15 (.agg (bD b))<|J.c0 0 [] [] [] S4 16 hb82 (dM b _) fun w5 S5=>J.bn 3 [] [] [] 18 (unB b) (fun fk2=>?_) fun fk2=>?_
 have fb2:=bE.1 fk2
 try dsimp only at fb2
 refine J.r 4 [false] [] []<|J.c0 0 [] [] [] S5 20 hb120 (expo_any b1 _) fun w6 S6=>J.c0 0 [] [] [] S6 21 hb120 (expo_any b2 _) fun w7 S7=>J.nw 0 [] [] [] S7 8 [.pointer none,.pointer none,.pointer none,.pointer none,.pointer none] 143 fun b4 w8 S8=>J.nw 0 [] [] [] S8 9 [.pointer none,.pointer none,.pointer none,.pointer none,.pointer none] 143 fun b5 w9 S9=>J.sb 0 [] [] [] S9 1 rfl [pv b1,.pointer (some ⟨b1,1,none⟩),.pointer (some ⟨b1,2,none⟩),.pointer (some ⟨b1,3,none⟩),.pointer (some ⟨b1,4,none⟩)] rfl fun w10 S10=>J.sb 0 [] [] [] S10 0 rfl [pv b2,.pointer (some ⟨b2,1,none⟩),.pointer (some ⟨b2,2,none⟩),.pointer (some ⟨b2,3,none⟩),.pointer (some ⟨b2,4,none⟩)] rfl fun w11 S11=>J.r 22 [true] [(10,iv 0),(22,iv 0)] []<|J.drawTail S11 14 Tryz.mixed kr kr ?_
 intro w12 S12
 refine SL.r 25 (iv 0)<|SL.ok dE (OK.indexP 26 143 5 1 b4 0 0 0 kr kr om om)<|SL.head (pv b4) zO<|SL.lb S12 1 rfl 27 (pv b1)<|SL.r 28 (pv b1)<|SL.lb S12 4 rfl 29 (iv a.gM)<|SL.r 30 (iv (-1))<|SL.r 31 (iv 0)<|SL.ok dE (OK.indexP 32 143 5 1 b5 0 0 0 kr kr om om)<|SL.head (pv b5) zO<|SL.lb S12 0 rfl 33 (pv b2) ?_
 refine SL.r 34 (pv b2)<|SL.lb S12 3 rfl 35 (iv b.gM)<|SL.r 36 (iv (IntKind.wrap .i64 ((-1)*b.gM)))<|SL.head (iv ((-1)*b.gM)) (congrArg (Value.int .i64) (IntWalk.i64_in _ om))<|SL.r 37 (iv (IntKind.wrap .i64 (a.gM+((-1)*b.gM))))<|SL.head (iv (a.gM+((-1)*b.gM))) (congrArg (Value.int .i64) (IntWalk.i64_in _ om))<|SL.r 38 (pv b1)<|SL.done<|TL.stBox S12 4 3 0 (iv (a.gM+((-1)*b.gM))) [iv (a.gM+((-1)*b.gM)),iv a.gKg,iv a.gS,iv a.gA,iv a.gK] [box b5 [pv b2,.pointer (some ⟨b2,1,none⟩),.pointer (some ⟨b2,2,none⟩),.pointer (some ⟨b2,3,none⟩),.pointer (some ⟨b2,4,none⟩)] 143,box b4 [pv b1,.pointer (some ⟨b1,1,none⟩),.pointer (some ⟨b1,2,none⟩),.pointer (some ⟨b1,3,none⟩),.pointer (some ⟨b1,4,none⟩)] 143,box b3 bg 52,box b2 (bu b) 52,box b1 [iv (a.gM+((-1)*b.gM)),iv a.gKg,iv a.gS,iv a.gA,iv a.gK] 52] kr rfl kr kr rfl ?_
 intro w13 S13
 refine TL.done kr<|J.r 20 [true] [(10,iv 1),(22,iv 1)] []<|J.drawTail S13 14 Tryz.mixed kr kr ?_
 intro w14 S14
 refine SL.r 25 (iv 1)<|SL.ok dE (OK.indexP 26 143 5 1 b4 0 1 1 kr kr om om)<|SL.head (.pointer (some ⟨b4,1,none⟩)) zO<|SL.lb S14 1 rfl 27 (.pointer (some ⟨b1,1,none⟩))<|SL.r 28 (.pointer (some ⟨b1,1,none⟩))<|SL.lb S14 4 rfl 29 (iv a.gKg)<|SL.r 30 (iv (-1))<|SL.r 31 (iv 1)<|SL.ok dE (OK.indexP 32 143 5 1 b5 0 1 1 kr kr om om)<|SL.head (.pointer (some ⟨b5,1,none⟩)) zO<|SL.lb S14 0 rfl 33 (.pointer (some ⟨b2,1,none⟩)) ?_
 refine SL.r 34 (.pointer (some ⟨b2,1,none⟩))<|SL.lb S14 3 rfl 35 (iv b.gKg)<|SL.r 36 (iv (IntKind.wrap .i64 ((-1)*b.gKg)))<|SL.head (iv ((-1)*b.gKg)) (congrArg (Value.int .i64) (IntWalk.i64_in _ om))<|SL.r 37 (iv (IntKind.wrap .i64 (a.gKg+((-1)*b.gKg))))<|SL.head (iv (a.gKg+((-1)*b.gKg))) (congrArg (Value.int .i64) (IntWalk.i64_in _ om))<|SL.r 38 (.pointer (some ⟨b1,1,none⟩))<|SL.done<|TL.stBox S14 4 3 1 (iv (a.gKg+((-1)*b.gKg))) [iv (a.gM+((-1)*b.gM)),iv (a.gKg+((-1)*b.gKg)),iv a.gS,iv a.gA,iv a.gK] [box b5 [pv b2,.pointer (some ⟨b2,1,none⟩),.pointer (some ⟨b2,2,none⟩),.pointer (some ⟨b2,3,none⟩),.pointer (some ⟨b2,4,none⟩)] 143,box b4 [pv b1,.pointer (some ⟨b1,1,none⟩),.pointer (some ⟨b1,2,none⟩),.pointer (some ⟨b1,3,none⟩),.pointer (some ⟨b1,4,none⟩)] 143,box b3 bg 52,box b2 (bu b) 52,box b1 [iv (a.gM+((-1)*b.gM)),iv (a.gKg+((-1)*b.gKg)),iv a.gS,iv a.gA,iv a.gK] 52] kr rfl kr kr rfl ?_
 intro w15 S15
 refine TL.done kr<|J.r 20 [true] [(10,iv 2),(22,iv 2)] []<|J.drawTail S15 14 Tryz.mixed kr kr ?_
 intro w16 S16
 refine SL.r 25 (iv 2)<|SL.ok dE (OK.indexP 26 143 5 1 b4 0 2 2 kr kr om om)<|SL.head (.pointer (some ⟨b4,2,none⟩)) zO<|SL.lb S16 1 rfl 27 (.pointer (some ⟨b1,2,none⟩))<|SL.r 28 (.pointer (some ⟨b1,2,none⟩))<|SL.lb S16 4 rfl 29 (iv a.gS)<|SL.r 30 (iv (-1))<|SL.r 31 (iv 2)<|SL.ok dE (OK.indexP 32 143 5 1 b5 0 2 2 kr kr om om)<|SL.head (.pointer (some ⟨b5,2,none⟩)) zO<|SL.lb S16 0 rfl 33 (.pointer (some ⟨b2,2,none⟩)) ?_
 refine SL.r 34 (.pointer (some ⟨b2,2,none⟩))<|SL.lb S16 3 rfl 35 (iv b.gS)<|SL.r 36 (iv (IntKind.wrap .i64 ((-1)*b.gS)))<|SL.head (iv ((-1)*b.gS)) (congrArg (Value.int .i64) (IntWalk.i64_in _ om))<|SL.r 37 (iv (IntKind.wrap .i64 (a.gS+((-1)*b.gS))))<|SL.head (iv (a.gS+((-1)*b.gS))) (congrArg (Value.int .i64) (IntWalk.i64_in _ om))<|SL.r 38 (.pointer (some ⟨b1,2,none⟩))<|SL.done<|TL.stBox S16 4 3 2 (iv (a.gS+((-1)*b.gS))) [iv (a.gM+((-1)*b.gM)),iv (a.gKg+((-1)*b.gKg)),iv (a.gS+((-1)*b.gS)),iv a.gA,iv a.gK] [box b5 [pv b2,.pointer (some ⟨b2,1,none⟩),.pointer (some ⟨b2,2,none⟩),.pointer (some ⟨b2,3,none⟩),.pointer (some ⟨b2,4,none⟩)] 143,box b4 [pv b1,.pointer (some ⟨b1,1,none⟩),.pointer (some ⟨b1,2,none⟩),.pointer (some ⟨b1,3,none⟩),.pointer (some ⟨b1,4,none⟩)] 143,box b3 bg 52,box b2 (bu b) 52,box b1 [iv (a.gM+((-1)*b.gM)),iv (a.gKg+((-1)*b.gKg)),iv (a.gS+((-1)*b.gS)),iv a.gA,iv a.gK] 52] kr rfl kr kr rfl ?_
 intro w17 S17
 refine TL.done kr<|J.r 20 [true] [(10,iv 3),(22,iv 3)] []<|J.drawTail S17 14 Tryz.mixed kr kr ?_
 intro w18 S18
 refine SL.r 25 (iv 3)<|SL.ok dE (OK.indexP 26 143 5 1 b4 0 3 3 kr kr om om)<|SL.head (.pointer (some ⟨b4,3,none⟩)) zO<|SL.lb S18 1 rfl 27 (.pointer (some ⟨b1,3,none⟩))<|SL.r 28 (.pointer (some ⟨b1,3,none⟩))<|SL.lb S18 4 rfl 29 (iv a.gA)<|SL.r 30 (iv (-1))<|SL.r 31 (iv 3)<|SL.ok dE (OK.indexP 32 143 5 1 b5 0 3 3 kr kr om om)<|SL.head (.pointer (some ⟨b5,3,none⟩)) zO<|SL.lb S18 0 rfl 33 (.pointer (some ⟨b2,3,none⟩)) ?_
 refine SL.r 34 (.pointer (some ⟨b2,3,none⟩))<|SL.lb S18 3 rfl 35 (iv b.gA)<|SL.r 36 (iv (IntKind.wrap .i64 ((-1)*b.gA)))<|SL.head (iv ((-1)*b.gA)) (congrArg (Value.int .i64) (IntWalk.i64_in _ om))<|SL.r 37 (iv (IntKind.wrap .i64 (a.gA+((-1)*b.gA))))<|SL.head (iv (a.gA+((-1)*b.gA))) (congrArg (Value.int .i64) (IntWalk.i64_in _ om))<|SL.r 38 (.pointer (some ⟨b1,3,none⟩))<|SL.done<|TL.stBox S18 4 3 3 (iv (a.gA+((-1)*b.gA))) [iv (a.gM+((-1)*b.gM)),iv (a.gKg+((-1)*b.gKg)),iv (a.gS+((-1)*b.gS)),iv (a.gA+((-1)*b.gA)),iv a.gK] [box b5 [pv b2,.pointer (some ⟨b2,1,none⟩),.pointer (some ⟨b2,2,none⟩),.pointer (some ⟨b2,3,none⟩),.pointer (some ⟨b2,4,none⟩)] 143,box b4 [pv b1,.pointer (some ⟨b1,1,none⟩),.pointer (some ⟨b1,2,none⟩),.pointer (some ⟨b1,3,none⟩),.pointer (some ⟨b1,4,none⟩)] 143,box b3 bg 52,box b2 (bu b) 52,box b1 [iv (a.gM+((-1)*b.gM)),iv (a.gKg+((-1)*b.gKg)),iv (a.gS+((-1)*b.gS)),iv (a.gA+((-1)*b.gA)),iv a.gK] 52] kr rfl kr kr rfl ?_
 intro w19 S19
 refine TL.done kr<|J.r 20 [true] [(10,iv 4),(22,iv 4)] []<|J.drawTail S19 14 Tryz.mixed kr kr ?_
 intro w20 S20
 refine SL.r 25 (iv 4)<|SL.ok dE (OK.indexP 26 143 5 1 b4 0 4 4 kr kr om om)<|SL.head (.pointer (some ⟨b4,4,none⟩)) zO<|SL.lb S20 1 rfl 27 (.pointer (some ⟨b1,4,none⟩))<|SL.r 28 (.pointer (some ⟨b1,4,none⟩))<|SL.lb S20 4 rfl 29 (iv a.gK)<|SL.r 30 (iv (-1))<|SL.r 31 (iv 4)<|SL.ok dE (OK.indexP 32 143 5 1 b5 0 4 4 kr kr om om)<|SL.head (.pointer (some ⟨b5,4,none⟩)) zO<|SL.lb S20 0 rfl 33 (.pointer (some ⟨b2,4,none⟩)) ?_
 refine SL.r 34 (.pointer (some ⟨b2,4,none⟩))<|SL.lb S20 3 rfl 35 (iv b.gK)<|SL.r 36 (iv (IntKind.wrap .i64 ((-1)*b.gK)))<|SL.head (iv ((-1)*b.gK)) (congrArg (Value.int .i64) (IntWalk.i64_in _ om))<|SL.r 37 (iv (IntKind.wrap .i64 (a.gK+((-1)*b.gK))))<|SL.head (iv (a.gK+((-1)*b.gK))) (congrArg (Value.int .i64) (IntWalk.i64_in _ om))<|SL.r 38 (.pointer (some ⟨b1,4,none⟩))<|SL.done<|TL.stBox S20 4 3 4 (iv (a.gK+((-1)*b.gK))) [iv (a.gM+((-1)*b.gM)),iv (a.gKg+((-1)*b.gKg)),iv (a.gS+((-1)*b.gS)),iv (a.gA+((-1)*b.gA)),iv (a.gK+((-1)*b.gK))] [box b5 [pv b2,.pointer (some ⟨b2,1,none⟩),.pointer (some ⟨b2,2,none⟩),.pointer (some ⟨b2,3,none⟩),.pointer (some ⟨b2,4,none⟩)] 143,box b4 [pv b1,.pointer (some ⟨b1,1,none⟩),.pointer (some ⟨b1,2,none⟩),.pointer (some ⟨b1,3,none⟩),.pointer (some ⟨b1,4,none⟩)] 143,box b3 bg 52,box b2 (bu b) 52,box b1 [iv (a.gM+((-1)*b.gM)),iv (a.gKg+((-1)*b.gKg)),iv (a.gS+((-1)*b.gS)),iv (a.gA+((-1)*b.gA)),iv (a.gK+((-1)*b.gK))] 52] kr rfl kr kr rfl ?_
 intro w21 S21
 refine TL.done kr<|J.lb 16 [false] [] [22] S21 4 rfl 40 (.agg #[iv (a.gM+((-1)*b.gM)),iv (a.gKg+((-1)*b.gKg)),iv (a.gS+((-1)*b.gS)),iv (a.gA+((-1)*b.gA)),iv (a.gK+((-1)*b.gK))])<|J.c0 0 [] [] [] S21 41 hb82 (dM (⟨a.gM+((-1)*b.gM),a.gKg+((-1)*b.gKg),a.gS+((-1)*b.gS),a.gA+((-1)*b.gA),a.gK+((-1)*b.gK)⟩:Unt) _) fun w22 S22=>J.bn 2 [] [] [] 42 (unB (⟨a.gM+((-1)*b.gM),a.gKg+((-1)*b.gKg),a.gS+((-1)*b.gS),a.gA+((-1)*b.gA),a.gK+((-1)*b.gK)⟩:Unt)) (fun fk3=>?_) fun fk3=>?_
 have fb3:=bE.1 fk3
 try dsimp only at fb3
 refine J.lb 4 [false] [] [] S22 4 rfl 44 (.agg #[iv (a.gM+((-1)*b.gM)),iv (a.gKg+((-1)*b.gKg)),iv (a.gS+((-1)*b.gS)),iv (a.gA+((-1)*b.gA)),iv (a.gK+((-1)*b.gK))])<|J.sb 0 [] [] [] S22 2 rfl [iv (a.gM+((-1)*b.gM)),iv (a.gKg+((-1)*b.gKg)),iv (a.gS+((-1)*b.gS)),iv (a.gA+((-1)*b.gA)),iv (a.gK+((-1)*b.gK))] rfl fun w23 S23=>J.r 2 [] [(7,iv 0)] []<|J.ret Tryz.f154 [.agg #[iv (a.gM+((-1)*b.gM)),iv (a.gKg+((-1)*b.gKg)),iv (a.gS+((-1)*b.gS)),iv (a.gA+((-1)*b.gA)),iv (a.gK+((-1)*b.gK))],iv 0] func154 ⟨⟨⟨b3,0,none⟩,kr,aS (S23.nth 2 rfl) kr⟩,kr,trivial⟩<|hR _ _ ?_
 obtain ⟨e1,e2⟩:=un_in (a:=a) (b:=b) (s:=(-1)) fk1 fk2 fk3
 exact⟨by rw[e1,e2];rfl,S23.nil⟩
 have fb4:=mt bE.2 (by rw[fk3];decide)
 try dsimp only at fb4
 refine J.sb 4 [true] [] [] S22 2 rfl bg rfl fun w24 S24=>J.r 2 [] [(7,iv 2)] []<|J.ret Tryz.f154 [.agg eH,iv 2] func154 ⟨⟨⟨b3,0,none⟩,kr,aS (S24.nth 2 rfl) kr⟩,kr,trivial⟩<|hR _ _ ?_
 obtain ⟨e1,e2⟩:=un_out (a:=a) (b:=b) (s:=(-1)) fk1 fk2 fk3
 exact⟨by rw[e1,e2];rfl,S24.nil⟩
 have fb5:=mt bE.2 (by rw[fk2];decide)
 try dsimp only at fb5
 refine J.sb 4 [true] [] [] S5 0 rfl bg rfl fun w25 S25=>J.r 2 [] [(7,iv 1)] []<|J.ret Tryz.f154 [.agg eH,iv 1] func154 ⟨⟨⟨b3,0,none⟩,kr,aS (S25.nth 0 rfl) kr⟩,kr,trivial⟩<|hR _ _ ?_
 obtain ⟨e1,e2⟩:=un_bad (a:=a) (b:=b) (s:=(-1)) (by first | exact .inl fk2 | exact .inr fk2)
 exact⟨by rw[e1,e2];rfl,S25.nil⟩
 have fb6:=mt bE.2 (by rw[fk1];decide)
 try dsimp only at fb6
 refine J.sb 9 [true] [] [] S4 0 rfl bg rfl fun w26 S26=>J.r 2 [] [(7,iv 1)] []<|J.ret Tryz.f154 [.agg eH,iv 1] func154 ⟨⟨⟨b3,0,none⟩,kr,aS (S26.nth 0 rfl) kr⟩,kr,trivial⟩<|hR _ _ ?_
 obtain ⟨e1,e2⟩:=un_bad (a:=a) (b:=b) (s:=(-1)) (by first | exact .inl fk1 | exact .inr fk1)
 exact⟨by rw[e1,e2];rfl,S26.nil⟩

theorem hb67:af prog 67:=fun _ _=>by kernel_rfl

theorem rucomb_any (a b:Unt) (w:World):Ret prog 67 #[.agg (bD a),.agg (bD b),iv 1] w (fun v w'=>v=.tuple #[.agg #[iv (unX a b 1).gM,iv (unX a b 1).gKg,iv (unX a b 1).gS,iv (unX a b 1).gA,iv (unX a b 1).gK],iv (unE a b 1)]∧Sep w [] w'):=by
 refine Ret.st (N:=50) func67 fun R hR S0=>J.nw 2 [] [] [] S0 3 (bu a) 52 fun b1 w1 S1=>J.nw 0 [] [] [] S1 4 (bu b) 52 fun b2 w2 S2=>J.nw 0 [] [] [] S2 6 bg 52 fun b3 w3 S3=>J.lb 5 [] [] [] S3 2 rfl 12 (.agg (bD a))<|J.c0 0 [] [] [] S3 13 hb107 (eK a _) fun w4 S4=>J.bn 2 [] [] [] 15 (unB a) (fun fk1=>?_) fun fk1=>?_
 have fb1:=bE.1 fk1
 try dsimp only at fb1
 refine J.lb 0 [] [] [] S4 1 rfl 16 (.agg (bD b))<|J.c0 0 [] [] [] S4 17 hb107 (eK b _) fun w5 S5=>J.bn 3 [] [] [] 19 (unB b) (fun fk2=>?_) fun fk2=>?_
 have fb2:=bE.1 fk2
 try dsimp only at fb2
 refine J.r 3 [false] [] []<|J.drawPlan (fun w_=>Sep w [box b3 bg 52,box b2 (bu b) 52,box b1 (bu a) 52] w_) [(0,true),(2,true),(1,false),(3,false),(4,true),(5,true)] S5 Tryz.mixed kr (aE (T:=[(0,some 21,8),(1,some 22,2097152),(0,some 23,16),(6,some 24,8388608),(11,some 8,4194304),(31,some 9,16777216)]) kr kr) ?_
 intro w6 S6
 refine PB.mk S6<|PL.takeOK 0 (fun w_ S_=>OK.ldBox S_ 2 21 52 0 (.agg (bD a)) kr rfl kr) rfl<|PL.takeOK 2 (fun w_ S_=>OK.ldBox S_ 1 23 52 0 (.agg (bD b)) kr rfl kr) rfl<|PL.callF 22 108 #[.agg (bD a)] hb108 kr (list_any a _) ?_
 rintro _ w7 ⟨b4,rfl,T1⟩
 have S7:Sep w [box b4 (bu a) 3,box b3 bg 52,box b2 (bu b) 52,box b1 (bu a) 52] w7:=S6.trans T1
 clear T1 S6
 refine PB.mk (S7.erase 0)<|PL.callF 24 108 #[.agg (bD b)] hb108 kr (list_any b _) ?_
 rintro _ w8 ⟨b5,rfl,T2⟩
 have S8:Sep w [box b5 (bu b) 3,box b4 (bu a) 3,box b3 bg 52,box b2 (bu b) 52,box b1 (bu a) 52] w8:=S7.trans T2
 clear T2 S7
 refine PB.mk ((S8.erase 1).erase 0)<|PL.take 4 8 (.slice (some ⟨b4,0,none⟩) 5 5) (fun _ _=>kr)<|PL.take 5 9 (.slice (some ⟨b5,0,none⟩) 5 5) (fun _ _=>kr)<|PL.done<|J.r 17 [true] [(10,iv 0)] [] ?_
 obtain ⟨p1,hp1,hc1⟩:=(cc [a.gM,a.gKg,a.gS,a.gA,a.gK] (S8.nth 1 rfl) rfl 5 rfl).at 0 0 om
 obtain ⟨p2,hp2,hc2⟩:=(cc [b.gM,b.gKg,b.gS,b.gA,b.gK] (S8.nth 0 rfl) rfl 5 rfl).at 0 0 om
 refine J.drawTail S8 14 Tryz.mixed kr kr ?_
 intro w9 S9
 refine SL.r 29 (.slice (some ⟨b4,0,none⟩) 5 5)<|SL.r 30 (iv 0)<|SL.r 31 (.slice (some ⟨b4,0,none⟩) 5 5)<|SL.r 32 (iv 0)<|SL.ok dE (OK.index 33 26 1 (some ⟨b4,0,none⟩) ⟨b4,0,none⟩ 5 0 0 ⟨b4,0,none⟩ kr kr rfl om om rF)<|SL.lb S9 1 rfl 34 (iv a.gM)<|SL.r 35 (iv 1)<|SL.r 36 (.slice (some ⟨b5,0,none⟩) 5 5)<|SL.r 37 (iv 0)<|SL.ok dE (OK.index 38 26 1 (some ⟨b5,0,none⟩) ⟨b5,0,none⟩ 5 0 0 ⟨b5,0,none⟩ kr kr rfl om om rF)<|SL.lb S9 0 rfl 39 (iv b.gM) ?_
 refine SL.r 40 (iv (IntKind.wrap .i64 (1*b.gM)))<|SL.head (iv (1*b.gM)) (congrArg (Value.int .i64) (IntWalk.i64_in _ om))<|SL.r 41 (iv (IntKind.wrap .i64 (a.gM+(1*b.gM))))<|SL.head (iv (a.gM+(1*b.gM))) (congrArg (Value.int .i64) (IntWalk.i64_in _ om))<|SL.ok dE (OK.index 42 26 1 (some ⟨b4,0,none⟩) ⟨b4,0,none⟩ 5 0 0 ⟨b4,0,none⟩ kr kr rfl om om rF)<|SL.done<|TL.stBox S9 1 3 0 (iv (a.gM+(1*b.gM))) [iv (a.gM+(1*b.gM)),iv a.gKg,iv a.gS,iv a.gA,iv a.gK] [box b5 (bu b) 3,box b4 [iv (a.gM+(1*b.gM)),iv a.gKg,iv a.gS,iv a.gA,iv a.gK] 3,box b3 bg 52,box b2 (bu b) 52,box b1 (bu a) 52] kr rfl kr kr rfl ?_
 intro w10 S10
 refine TL.done kr<|J.r 17 [true] [(10,iv 1)] [] ?_
 obtain ⟨p3,hp3,hc3⟩:=(cc [(a.gM+(1*b.gM)),a.gKg,a.gS,a.gA,a.gK] (S10.nth 1 rfl) rfl 5 rfl).at 0 1 om
 obtain ⟨p4,hp4,hc4⟩:=(cc [b.gM,b.gKg,b.gS,b.gA,b.gK] (S10.nth 0 rfl) rfl 5 rfl).at 0 1 om
 refine J.drawTail S10 14 Tryz.mixed kr kr ?_
 intro w11 S11
 refine SL.r 29 (.slice (some ⟨b4,0,none⟩) 5 5)<|SL.r 30 (iv 1)<|SL.r 31 (.slice (some ⟨b4,0,none⟩) 5 5)<|SL.r 32 (iv 1)<|SL.ok dE (OK.index 33 26 1 (some ⟨b4,0,none⟩) ⟨b4,0,none⟩ 5 1 1 ⟨b4,1,none⟩ kr kr rfl om om rF)<|SL.lb S11 1 rfl 34 (iv a.gKg)<|SL.r 35 (iv 1)<|SL.r 36 (.slice (some ⟨b5,0,none⟩) 5 5)<|SL.r 37 (iv 1)<|SL.ok dE (OK.index 38 26 1 (some ⟨b5,0,none⟩) ⟨b5,0,none⟩ 5 1 1 ⟨b5,1,none⟩ kr kr rfl om om rF)<|SL.lb S11 0 rfl 39 (iv b.gKg) ?_
 refine SL.r 40 (iv (IntKind.wrap .i64 (1*b.gKg)))<|SL.head (iv (1*b.gKg)) (congrArg (Value.int .i64) (IntWalk.i64_in _ om))<|SL.r 41 (iv (IntKind.wrap .i64 (a.gKg+(1*b.gKg))))<|SL.head (iv (a.gKg+(1*b.gKg))) (congrArg (Value.int .i64) (IntWalk.i64_in _ om))<|SL.ok dE (OK.index 42 26 1 (some ⟨b4,0,none⟩) ⟨b4,0,none⟩ 5 1 1 ⟨b4,1,none⟩ kr kr rfl om om rF)<|SL.done<|TL.stBox S11 1 3 1 (iv (a.gKg+(1*b.gKg))) [iv (a.gM+(1*b.gM)),iv (a.gKg+(1*b.gKg)),iv a.gS,iv a.gA,iv a.gK] [box b5 (bu b) 3,box b4 [iv (a.gM+(1*b.gM)),iv (a.gKg+(1*b.gKg)),iv a.gS,iv a.gA,iv a.gK] 3,box b3 bg 52,box b2 (bu b) 52,box b1 (bu a) 52] kr rfl kr kr rfl ?_
 intro w12 S12
 refine TL.done kr<|J.r 17 [true] [(10,iv 2)] [] ?_
 obtain ⟨p5,hp5,hc5⟩:=(cc [(a.gM+(1*b.gM)),(a.gKg+(1*b.gKg)),a.gS,a.gA,a.gK] (S12.nth 1 rfl) rfl 5 rfl).at 0 2 om
 obtain ⟨p6,hp6,hc6⟩:=(cc [b.gM,b.gKg,b.gS,b.gA,b.gK] (S12.nth 0 rfl) rfl 5 rfl).at 0 2 om
 refine J.drawTail S12 14 Tryz.mixed kr kr ?_
 intro w13 S13
 refine SL.r 29 (.slice (some ⟨b4,0,none⟩) 5 5)<|SL.r 30 (iv 2)<|SL.r 31 (.slice (some ⟨b4,0,none⟩) 5 5)<|SL.r 32 (iv 2)<|SL.ok dE (OK.index 33 26 1 (some ⟨b4,0,none⟩) ⟨b4,0,none⟩ 5 2 2 ⟨b4,2,none⟩ kr kr rfl om om rF)<|SL.lb S13 1 rfl 34 (iv a.gS)<|SL.r 35 (iv 1)<|SL.r 36 (.slice (some ⟨b5,0,none⟩) 5 5)<|SL.r 37 (iv 2)<|SL.ok dE (OK.index 38 26 1 (some ⟨b5,0,none⟩) ⟨b5,0,none⟩ 5 2 2 ⟨b5,2,none⟩ kr kr rfl om om rF)<|SL.lb S13 0 rfl 39 (iv b.gS) ?_
 refine SL.r 40 (iv (IntKind.wrap .i64 (1*b.gS)))<|SL.head (iv (1*b.gS)) (congrArg (Value.int .i64) (IntWalk.i64_in _ om))<|SL.r 41 (iv (IntKind.wrap .i64 (a.gS+(1*b.gS))))<|SL.head (iv (a.gS+(1*b.gS))) (congrArg (Value.int .i64) (IntWalk.i64_in _ om))<|SL.ok dE (OK.index 42 26 1 (some ⟨b4,0,none⟩) ⟨b4,0,none⟩ 5 2 2 ⟨b4,2,none⟩ kr kr rfl om om rF)<|SL.done<|TL.stBox S13 1 3 2 (iv (a.gS+(1*b.gS))) [iv (a.gM+(1*b.gM)),iv (a.gKg+(1*b.gKg)),iv (a.gS+(1*b.gS)),iv a.gA,iv a.gK] [box b5 (bu b) 3,box b4 [iv (a.gM+(1*b.gM)),iv (a.gKg+(1*b.gKg)),iv (a.gS+(1*b.gS)),iv a.gA,iv a.gK] 3,box b3 bg 52,box b2 (bu b) 52,box b1 (bu a) 52] kr rfl kr kr rfl ?_
 intro w14 S14
 refine TL.done kr<|J.r 17 [true] [(10,iv 3)] [] ?_
 obtain ⟨p7,hp7,hc7⟩:=(cc [(a.gM+(1*b.gM)),(a.gKg+(1*b.gKg)),(a.gS+(1*b.gS)),a.gA,a.gK] (S14.nth 1 rfl) rfl 5 rfl).at 0 3 om
 obtain ⟨p8,hp8,hc8⟩:=(cc [b.gM,b.gKg,b.gS,b.gA,b.gK] (S14.nth 0 rfl) rfl 5 rfl).at 0 3 om
 refine J.drawTail S14 14 Tryz.mixed kr kr ?_
 intro w15 S15
 refine SL.r 29 (.slice (some ⟨b4,0,none⟩) 5 5)<|SL.r 30 (iv 3)<|SL.r 31 (.slice (some ⟨b4,0,none⟩) 5 5)<|SL.r 32 (iv 3)<|SL.ok dE (OK.index 33 26 1 (some ⟨b4,0,none⟩) ⟨b4,0,none⟩ 5 3 3 ⟨b4,3,none⟩ kr kr rfl om om rF)<|SL.lb S15 1 rfl 34 (iv a.gA)<|SL.r 35 (iv 1)<|SL.r 36 (.slice (some ⟨b5,0,none⟩) 5 5)<|SL.r 37 (iv 3)<|SL.ok dE (OK.index 38 26 1 (some ⟨b5,0,none⟩) ⟨b5,0,none⟩ 5 3 3 ⟨b5,3,none⟩ kr kr rfl om om rF)<|SL.lb S15 0 rfl 39 (iv b.gA) ?_
 refine SL.r 40 (iv (IntKind.wrap .i64 (1*b.gA)))<|SL.head (iv (1*b.gA)) (congrArg (Value.int .i64) (IntWalk.i64_in _ om))<|SL.r 41 (iv (IntKind.wrap .i64 (a.gA+(1*b.gA))))<|SL.head (iv (a.gA+(1*b.gA))) (congrArg (Value.int .i64) (IntWalk.i64_in _ om))<|SL.ok dE (OK.index 42 26 1 (some ⟨b4,0,none⟩) ⟨b4,0,none⟩ 5 3 3 ⟨b4,3,none⟩ kr kr rfl om om rF)<|SL.done<|TL.stBox S15 1 3 3 (iv (a.gA+(1*b.gA))) [iv (a.gM+(1*b.gM)),iv (a.gKg+(1*b.gKg)),iv (a.gS+(1*b.gS)),iv (a.gA+(1*b.gA)),iv a.gK] [box b5 (bu b) 3,box b4 [iv (a.gM+(1*b.gM)),iv (a.gKg+(1*b.gKg)),iv (a.gS+(1*b.gS)),iv (a.gA+(1*b.gA)),iv a.gK] 3,box b3 bg 52,box b2 (bu b) 52,box b1 (bu a) 52] kr rfl kr kr rfl ?_
 intro w16 S16
 refine TL.done kr<|J.r 17 [true] [(10,iv 4)] [] ?_
 obtain ⟨p9,hp9,hc9⟩:=(cc [(a.gM+(1*b.gM)),(a.gKg+(1*b.gKg)),(a.gS+(1*b.gS)),(a.gA+(1*b.gA)),a.gK] (S16.nth 1 rfl) rfl 5 rfl).at 0 4 om
 obtain ⟨p10,hp10,hc10⟩:=(cc [b.gM,b.gKg,b.gS,b.gA,b.gK] (S16.nth 0 rfl) rfl 5 rfl).at 0 4 om
 refine J.drawTail S16 14 Tryz.mixed kr kr ?_
 intro w17 S17
 refine SL.r 29 (.slice (some ⟨b4,0,none⟩) 5 5)<|SL.r 30 (iv 4)<|SL.r 31 (.slice (some ⟨b4,0,none⟩) 5 5)<|SL.r 32 (iv 4)<|SL.ok dE (OK.index 33 26 1 (some ⟨b4,0,none⟩) ⟨b4,0,none⟩ 5 4 4 ⟨b4,4,none⟩ kr kr rfl om om rF)<|SL.lb S17 1 rfl 34 (iv a.gK)<|SL.r 35 (iv 1)<|SL.r 36 (.slice (some ⟨b5,0,none⟩) 5 5)<|SL.r 37 (iv 4)<|SL.ok dE (OK.index 38 26 1 (some ⟨b5,0,none⟩) ⟨b5,0,none⟩ 5 4 4 ⟨b5,4,none⟩ kr kr rfl om om rF)<|SL.lb S17 0 rfl 39 (iv b.gK) ?_
 refine SL.r 40 (iv (IntKind.wrap .i64 (1*b.gK)))<|SL.head (iv (1*b.gK)) (congrArg (Value.int .i64) (IntWalk.i64_in _ om))<|SL.r 41 (iv (IntKind.wrap .i64 (a.gK+(1*b.gK))))<|SL.head (iv (a.gK+(1*b.gK))) (congrArg (Value.int .i64) (IntWalk.i64_in _ om))<|SL.ok dE (OK.index 42 26 1 (some ⟨b4,0,none⟩) ⟨b4,0,none⟩ 5 4 4 ⟨b4,4,none⟩ kr kr rfl om om rF)<|SL.done<|TL.stBox S17 1 3 4 (iv (a.gK+(1*b.gK))) [iv (a.gM+(1*b.gM)),iv (a.gKg+(1*b.gKg)),iv (a.gS+(1*b.gS)),iv (a.gA+(1*b.gA)),iv (a.gK+(1*b.gK))] [box b5 (bu b) 3,box b4 [iv (a.gM+(1*b.gM)),iv (a.gKg+(1*b.gKg)),iv (a.gS+(1*b.gS)),iv (a.gA+(1*b.gA)),iv (a.gK+(1*b.gK))] 3,box b3 bg 52,box b2 (bu b) 52,box b1 (bu a) 52] kr rfl kr kr rfl ?_
 intro w18 S18
 refine TL.done kr<|J.r 18 [false] [(43,.slice (some ⟨b4,0,none⟩) 5 5)] [10]<|J.c0 0 [] [] [] S18 44 hb109 (of_any (some ⟨b4,0,none⟩) 5 5 ([(a.gM+(1*b.gM)),(a.gKg+(1*b.gKg)),(a.gS+(1*b.gS)),(a.gA+(1*b.gA)),(a.gK+(1*b.gK))]) _ ((cc [(a.gM+(1*b.gM)),(a.gKg+(1*b.gKg)),(a.gS+(1*b.gS)),(a.gA+(1*b.gA)),(a.gK+(1*b.gK))] (S18.nth 1 rfl) rfl 5 rfl)) om) fun w19 S19=>J.head (.agg #[iv (a.gM+(1*b.gM)),iv (a.gKg+(1*b.gKg)),iv (a.gS+(1*b.gS)),iv (a.gA+(1*b.gA)),iv (a.gK+(1*b.gK))]) rfl<|J.nw 0 [] [] [] S19 11 bg 52 fun b6 w20 S20=>J.sb 0 [] [] [] S20 0 rfl [iv (a.gM+(1*b.gM)),iv (a.gKg+(1*b.gKg)),iv (a.gS+(1*b.gS)),iv (a.gA+(1*b.gA)),iv (a.gK+(1*b.gK))] rfl fun w21 S21=>J.lb 4 [] [] [] S21 0 rfl 45 (.agg #[iv (a.gM+(1*b.gM)),iv (a.gKg+(1*b.gKg)),iv (a.gS+(1*b.gS)),iv (a.gA+(1*b.gA)),iv (a.gK+(1*b.gK))])<|J.c0 0 [] [] [] S21 46 hb107 (eK (⟨a.gM+(1*b.gM),a.gKg+(1*b.gKg),a.gS+(1*b.gS),a.gA+(1*b.gA),a.gK+(1*b.gK)⟩:Unt) _) fun w22 S22=>J.bn 2 [] [] [] 47 (unB (⟨a.gM+(1*b.gM),a.gKg+(1*b.gKg),a.gS+(1*b.gS),a.gA+(1*b.gA),a.gK+(1*b.gK)⟩:Unt)) (fun fk3=>?_) fun fk3=>?_
 have fb3:=bE.1 fk3
 try dsimp only at fb3
 refine J.lb 4 [false] [] [] S22 0 rfl 49 (.agg #[iv (a.gM+(1*b.gM)),iv (a.gKg+(1*b.gKg)),iv (a.gS+(1*b.gS)),iv (a.gA+(1*b.gA)),iv (a.gK+(1*b.gK))])<|J.sb 0 [] [] [] S22 3 rfl [iv (a.gM+(1*b.gM)),iv (a.gKg+(1*b.gKg)),iv (a.gS+(1*b.gS)),iv (a.gA+(1*b.gA)),iv (a.gK+(1*b.gK))] rfl fun w23 S23=>J.r 2 [] [(7,iv 0)] []<|J.ret Tryz.f67 [.agg #[iv (a.gM+(1*b.gM)),iv (a.gKg+(1*b.gKg)),iv (a.gS+(1*b.gS)),iv (a.gA+(1*b.gA)),iv (a.gK+(1*b.gK))],iv 0] func67 ⟨⟨⟨b3,0,none⟩,kr,aS (S23.nth 3 rfl) kr⟩,kr,trivial⟩<|hR _ _ ?_
 obtain ⟨e1,e2⟩:=un_in (a:=a) (b:=b) (s:=1) fk1 fk2 fk3
 exact⟨by rw[e1,e2];rfl,S23.nil⟩
 have fb4:=mt bE.2 (by rw[fk3];decide)
 try dsimp only at fb4
 refine J.sb 4 [true] [] [] S22 3 rfl bg rfl fun w24 S24=>J.r 2 [] [(7,iv 2)] []<|J.ret Tryz.f67 [.agg eH,iv 2] func67 ⟨⟨⟨b3,0,none⟩,kr,aS (S24.nth 3 rfl) kr⟩,kr,trivial⟩<|hR _ _ ?_
 obtain ⟨e1,e2⟩:=un_out (a:=a) (b:=b) (s:=1) fk1 fk2 fk3
 exact⟨by rw[e1,e2];rfl,S24.nil⟩
 have fb5:=mt bE.2 (by rw[fk2];decide)
 try dsimp only at fb5
 refine J.sb 4 [true] [] [] S5 0 rfl bg rfl fun w25 S25=>J.r 2 [] [(7,iv 1)] []<|J.ret Tryz.f67 [.agg eH,iv 1] func67 ⟨⟨⟨b3,0,none⟩,kr,aS (S25.nth 0 rfl) kr⟩,kr,trivial⟩<|hR _ _ ?_
 obtain ⟨e1,e2⟩:=un_bad (a:=a) (b:=b) (s:=1) (by first | exact .inl fk2 | exact .inr fk2)
 exact⟨by rw[e1,e2];rfl,S25.nil⟩
 have fb6:=mt bE.2 (by rw[fk1];decide)
 try dsimp only at fb6
 refine J.sb 9 [true] [] [] S4 0 rfl bg rfl fun w26 S26=>J.r 2 [] [(7,iv 1)] []<|J.ret Tryz.f67 [.agg eH,iv 1] func67 ⟨⟨⟨b3,0,none⟩,kr,aS (S26.nth 0 rfl) kr⟩,kr,trivial⟩<|hR _ _ ?_
 obtain ⟨e1,e2⟩:=un_bad (a:=a) (b:=b) (s:=1) (by first | exact .inl fk1 | exact .inr fk1)
 exact⟨by rw[e1,e2];rfl,S26.nil⟩

theorem rucombm_any (a b:Unt) (w:World):Ret prog 67 #[.agg (bD a),.agg (bD b),iv (-1)] w (fun v w'=>v=.tuple #[.agg #[iv (unX a b (-1)).gM,iv (unX a b (-1)).gKg,iv (unX a b (-1)).gS,iv (unX a b (-1)).gA,iv (unX a b (-1)).gK],iv (unE a b (-1))]∧Sep w [] w'):=by
 refine Ret.st (N:=50) func67 fun R hR S0=>J.nw 2 [] [] [] S0 3 (bu a) 52 fun b1 w1 S1=>J.nw 0 [] [] [] S1 4 (bu b) 52 fun b2 w2 S2=>J.nw 0 [] [] [] S2 6 bg 52 fun b3 w3 S3=>J.lb 5 [] [] [] S3 2 rfl 12 (.agg (bD a))<|J.c0 0 [] [] [] S3 13 hb107 (eK a _) fun w4 S4=>J.bn 2 [] [] [] 15 (unB a) (fun fk1=>?_) fun fk1=>?_
 have fb1:=bE.1 fk1
 try dsimp only at fb1
 refine J.lb 0 [] [] [] S4 1 rfl 16 (.agg (bD b))<|J.c0 0 [] [] [] S4 17 hb107 (eK b _) fun w5 S5=>J.bn 3 [] [] [] 19 (unB b) (fun fk2=>?_) fun fk2=>?_
 have fb2:=bE.1 fk2
 try dsimp only at fb2
 refine J.r 3 [false] [] []<|J.drawPlan (fun w_=>Sep w [box b3 bg 52,box b2 (bu b) 52,box b1 (bu a) 52] w_) [(0,true),(2,true),(1,false),(3,false),(4,true),(5,true)] S5 Tryz.mixed kr (aE (T:=[(0,some 21,8),(1,some 22,2097152),(0,some 23,16),(6,some 24,8388608),(11,some 8,4194304),(31,some 9,16777216)]) kr kr) ?_
 intro w6 S6
 refine PB.mk S6<|PL.takeOK 0 (fun w_ S_=>OK.ldBox S_ 2 21 52 0 (.agg (bD a)) kr rfl kr) rfl<|PL.takeOK 2 (fun w_ S_=>OK.ldBox S_ 1 23 52 0 (.agg (bD b)) kr rfl kr) rfl<|PL.callF 22 108 #[.agg (bD a)] hb108 kr (list_any a _) ?_
 rintro _ w7 ⟨b4,rfl,T1⟩
 have S7:Sep w [box b4 (bu a) 3,box b3 bg 52,box b2 (bu b) 52,box b1 (bu a) 52] w7:=S6.trans T1
 clear T1 S6
 refine PB.mk (S7.erase 0)<|PL.callF 24 108 #[.agg (bD b)] hb108 kr (list_any b _) ?_
 rintro _ w8 ⟨b5,rfl,T2⟩
 have S8:Sep w [box b5 (bu b) 3,box b4 (bu a) 3,box b3 bg 52,box b2 (bu b) 52,box b1 (bu a) 52] w8:=S7.trans T2
 clear T2 S7
 refine PB.mk ((S8.erase 1).erase 0)<|PL.take 4 8 (.slice (some ⟨b4,0,none⟩) 5 5) (fun _ _=>kr)<|PL.take 5 9 (.slice (some ⟨b5,0,none⟩) 5 5) (fun _ _=>kr)<|PL.done<|J.r 17 [true] [(10,iv 0)] [] ?_
 obtain ⟨p1,hp1,hc1⟩:=(cc [a.gM,a.gKg,a.gS,a.gA,a.gK] (S8.nth 1 rfl) rfl 5 rfl).at 0 0 om
 obtain ⟨p2,hp2,hc2⟩:=(cc [b.gM,b.gKg,b.gS,b.gA,b.gK] (S8.nth 0 rfl) rfl 5 rfl).at 0 0 om
 refine J.drawTail S8 14 Tryz.mixed kr kr ?_
 intro w9 S9
 refine SL.r 29 (.slice (some ⟨b4,0,none⟩) 5 5)<|SL.r 30 (iv 0)<|SL.r 31 (.slice (some ⟨b4,0,none⟩) 5 5)<|SL.r 32 (iv 0)<|SL.ok dE (OK.index 33 26 1 (some ⟨b4,0,none⟩) ⟨b4,0,none⟩ 5 0 0 ⟨b4,0,none⟩ kr kr rfl om om rF)<|SL.lb S9 1 rfl 34 (iv a.gM)<|SL.r 35 (iv (-1))<|SL.r 36 (.slice (some ⟨b5,0,none⟩) 5 5)<|SL.r 37 (iv 0)<|SL.ok dE (OK.index 38 26 1 (some ⟨b5,0,none⟩) ⟨b5,0,none⟩ 5 0 0 ⟨b5,0,none⟩ kr kr rfl om om rF)<|SL.lb S9 0 rfl 39 (iv b.gM) ?_
 refine SL.r 40 (iv (IntKind.wrap .i64 ((-1)*b.gM)))<|SL.head (iv ((-1)*b.gM)) (congrArg (Value.int .i64) (IntWalk.i64_in _ om))<|SL.r 41 (iv (IntKind.wrap .i64 (a.gM+((-1)*b.gM))))<|SL.head (iv (a.gM+((-1)*b.gM))) (congrArg (Value.int .i64) (IntWalk.i64_in _ om))<|SL.ok dE (OK.index 42 26 1 (some ⟨b4,0,none⟩) ⟨b4,0,none⟩ 5 0 0 ⟨b4,0,none⟩ kr kr rfl om om rF)<|SL.done<|TL.stBox S9 1 3 0 (iv (a.gM+((-1)*b.gM))) [iv (a.gM+((-1)*b.gM)),iv a.gKg,iv a.gS,iv a.gA,iv a.gK] [box b5 (bu b) 3,box b4 [iv (a.gM+((-1)*b.gM)),iv a.gKg,iv a.gS,iv a.gA,iv a.gK] 3,box b3 bg 52,box b2 (bu b) 52,box b1 (bu a) 52] kr rfl kr kr rfl ?_
 intro w10 S10
 refine TL.done kr<|J.r 17 [true] [(10,iv 1)] [] ?_
 obtain ⟨p3,hp3,hc3⟩:=(cc [(a.gM+((-1)*b.gM)),a.gKg,a.gS,a.gA,a.gK] (S10.nth 1 rfl) rfl 5 rfl).at 0 1 om
 obtain ⟨p4,hp4,hc4⟩:=(cc [b.gM,b.gKg,b.gS,b.gA,b.gK] (S10.nth 0 rfl) rfl 5 rfl).at 0 1 om
 refine J.drawTail S10 14 Tryz.mixed kr kr ?_
 intro w11 S11
 refine SL.r 29 (.slice (some ⟨b4,0,none⟩) 5 5)<|SL.r 30 (iv 1)<|SL.r 31 (.slice (some ⟨b4,0,none⟩) 5 5)<|SL.r 32 (iv 1)<|SL.ok dE (OK.index 33 26 1 (some ⟨b4,0,none⟩) ⟨b4,0,none⟩ 5 1 1 ⟨b4,1,none⟩ kr kr rfl om om rF)<|SL.lb S11 1 rfl 34 (iv a.gKg)<|SL.r 35 (iv (-1))<|SL.r 36 (.slice (some ⟨b5,0,none⟩) 5 5)<|SL.r 37 (iv 1)<|SL.ok dE (OK.index 38 26 1 (some ⟨b5,0,none⟩) ⟨b5,0,none⟩ 5 1 1 ⟨b5,1,none⟩ kr kr rfl om om rF)<|SL.lb S11 0 rfl 39 (iv b.gKg) ?_
 refine SL.r 40 (iv (IntKind.wrap .i64 ((-1)*b.gKg)))<|SL.head (iv ((-1)*b.gKg)) (congrArg (Value.int .i64) (IntWalk.i64_in _ om))<|SL.r 41 (iv (IntKind.wrap .i64 (a.gKg+((-1)*b.gKg))))<|SL.head (iv (a.gKg+((-1)*b.gKg))) (congrArg (Value.int .i64) (IntWalk.i64_in _ om))<|SL.ok dE (OK.index 42 26 1 (some ⟨b4,0,none⟩) ⟨b4,0,none⟩ 5 1 1 ⟨b4,1,none⟩ kr kr rfl om om rF)<|SL.done<|TL.stBox S11 1 3 1 (iv (a.gKg+((-1)*b.gKg))) [iv (a.gM+((-1)*b.gM)),iv (a.gKg+((-1)*b.gKg)),iv a.gS,iv a.gA,iv a.gK] [box b5 (bu b) 3,box b4 [iv (a.gM+((-1)*b.gM)),iv (a.gKg+((-1)*b.gKg)),iv a.gS,iv a.gA,iv a.gK] 3,box b3 bg 52,box b2 (bu b) 52,box b1 (bu a) 52] kr rfl kr kr rfl ?_
 intro w12 S12
 refine TL.done kr<|J.r 17 [true] [(10,iv 2)] [] ?_
 obtain ⟨p5,hp5,hc5⟩:=(cc [(a.gM+((-1)*b.gM)),(a.gKg+((-1)*b.gKg)),a.gS,a.gA,a.gK] (S12.nth 1 rfl) rfl 5 rfl).at 0 2 om
 obtain ⟨p6,hp6,hc6⟩:=(cc [b.gM,b.gKg,b.gS,b.gA,b.gK] (S12.nth 0 rfl) rfl 5 rfl).at 0 2 om
 refine J.drawTail S12 14 Tryz.mixed kr kr ?_
 intro w13 S13
 refine SL.r 29 (.slice (some ⟨b4,0,none⟩) 5 5)<|SL.r 30 (iv 2)<|SL.r 31 (.slice (some ⟨b4,0,none⟩) 5 5)<|SL.r 32 (iv 2)<|SL.ok dE (OK.index 33 26 1 (some ⟨b4,0,none⟩) ⟨b4,0,none⟩ 5 2 2 ⟨b4,2,none⟩ kr kr rfl om om rF)<|SL.lb S13 1 rfl 34 (iv a.gS)<|SL.r 35 (iv (-1))<|SL.r 36 (.slice (some ⟨b5,0,none⟩) 5 5)<|SL.r 37 (iv 2)<|SL.ok dE (OK.index 38 26 1 (some ⟨b5,0,none⟩) ⟨b5,0,none⟩ 5 2 2 ⟨b5,2,none⟩ kr kr rfl om om rF)<|SL.lb S13 0 rfl 39 (iv b.gS) ?_
 refine SL.r 40 (iv (IntKind.wrap .i64 ((-1)*b.gS)))<|SL.head (iv ((-1)*b.gS)) (congrArg (Value.int .i64) (IntWalk.i64_in _ om))<|SL.r 41 (iv (IntKind.wrap .i64 (a.gS+((-1)*b.gS))))<|SL.head (iv (a.gS+((-1)*b.gS))) (congrArg (Value.int .i64) (IntWalk.i64_in _ om))<|SL.ok dE (OK.index 42 26 1 (some ⟨b4,0,none⟩) ⟨b4,0,none⟩ 5 2 2 ⟨b4,2,none⟩ kr kr rfl om om rF)<|SL.done<|TL.stBox S13 1 3 2 (iv (a.gS+((-1)*b.gS))) [iv (a.gM+((-1)*b.gM)),iv (a.gKg+((-1)*b.gKg)),iv (a.gS+((-1)*b.gS)),iv a.gA,iv a.gK] [box b5 (bu b) 3,box b4 [iv (a.gM+((-1)*b.gM)),iv (a.gKg+((-1)*b.gKg)),iv (a.gS+((-1)*b.gS)),iv a.gA,iv a.gK] 3,box b3 bg 52,box b2 (bu b) 52,box b1 (bu a) 52] kr rfl kr kr rfl ?_
 intro w14 S14
 refine TL.done kr<|J.r 17 [true] [(10,iv 3)] [] ?_
 obtain ⟨p7,hp7,hc7⟩:=(cc [(a.gM+((-1)*b.gM)),(a.gKg+((-1)*b.gKg)),(a.gS+((-1)*b.gS)),a.gA,a.gK] (S14.nth 1 rfl) rfl 5 rfl).at 0 3 om
 obtain ⟨p8,hp8,hc8⟩:=(cc [b.gM,b.gKg,b.gS,b.gA,b.gK] (S14.nth 0 rfl) rfl 5 rfl).at 0 3 om
 refine J.drawTail S14 14 Tryz.mixed kr kr ?_
 intro w15 S15
 refine SL.r 29 (.slice (some ⟨b4,0,none⟩) 5 5)<|SL.r 30 (iv 3)<|SL.r 31 (.slice (some ⟨b4,0,none⟩) 5 5)<|SL.r 32 (iv 3)<|SL.ok dE (OK.index 33 26 1 (some ⟨b4,0,none⟩) ⟨b4,0,none⟩ 5 3 3 ⟨b4,3,none⟩ kr kr rfl om om rF)<|SL.lb S15 1 rfl 34 (iv a.gA)<|SL.r 35 (iv (-1))<|SL.r 36 (.slice (some ⟨b5,0,none⟩) 5 5)<|SL.r 37 (iv 3)<|SL.ok dE (OK.index 38 26 1 (some ⟨b5,0,none⟩) ⟨b5,0,none⟩ 5 3 3 ⟨b5,3,none⟩ kr kr rfl om om rF)<|SL.lb S15 0 rfl 39 (iv b.gA) ?_
 refine SL.r 40 (iv (IntKind.wrap .i64 ((-1)*b.gA)))<|SL.head (iv ((-1)*b.gA)) (congrArg (Value.int .i64) (IntWalk.i64_in _ om))<|SL.r 41 (iv (IntKind.wrap .i64 (a.gA+((-1)*b.gA))))<|SL.head (iv (a.gA+((-1)*b.gA))) (congrArg (Value.int .i64) (IntWalk.i64_in _ om))<|SL.ok dE (OK.index 42 26 1 (some ⟨b4,0,none⟩) ⟨b4,0,none⟩ 5 3 3 ⟨b4,3,none⟩ kr kr rfl om om rF)<|SL.done<|TL.stBox S15 1 3 3 (iv (a.gA+((-1)*b.gA))) [iv (a.gM+((-1)*b.gM)),iv (a.gKg+((-1)*b.gKg)),iv (a.gS+((-1)*b.gS)),iv (a.gA+((-1)*b.gA)),iv a.gK] [box b5 (bu b) 3,box b4 [iv (a.gM+((-1)*b.gM)),iv (a.gKg+((-1)*b.gKg)),iv (a.gS+((-1)*b.gS)),iv (a.gA+((-1)*b.gA)),iv a.gK] 3,box b3 bg 52,box b2 (bu b) 52,box b1 (bu a) 52] kr rfl kr kr rfl ?_
 intro w16 S16
 refine TL.done kr<|J.r 17 [true] [(10,iv 4)] [] ?_
 obtain ⟨p9,hp9,hc9⟩:=(cc [(a.gM+((-1)*b.gM)),(a.gKg+((-1)*b.gKg)),(a.gS+((-1)*b.gS)),(a.gA+((-1)*b.gA)),a.gK] (S16.nth 1 rfl) rfl 5 rfl).at 0 4 om
 obtain ⟨p10,hp10,hc10⟩:=(cc [b.gM,b.gKg,b.gS,b.gA,b.gK] (S16.nth 0 rfl) rfl 5 rfl).at 0 4 om
 refine J.drawTail S16 14 Tryz.mixed kr kr ?_
 intro w17 S17
 refine SL.r 29 (.slice (some ⟨b4,0,none⟩) 5 5)<|SL.r 30 (iv 4)<|SL.r 31 (.slice (some ⟨b4,0,none⟩) 5 5)<|SL.r 32 (iv 4)<|SL.ok dE (OK.index 33 26 1 (some ⟨b4,0,none⟩) ⟨b4,0,none⟩ 5 4 4 ⟨b4,4,none⟩ kr kr rfl om om rF)<|SL.lb S17 1 rfl 34 (iv a.gK)<|SL.r 35 (iv (-1))<|SL.r 36 (.slice (some ⟨b5,0,none⟩) 5 5)<|SL.r 37 (iv 4)<|SL.ok dE (OK.index 38 26 1 (some ⟨b5,0,none⟩) ⟨b5,0,none⟩ 5 4 4 ⟨b5,4,none⟩ kr kr rfl om om rF)<|SL.lb S17 0 rfl 39 (iv b.gK) ?_
 refine SL.r 40 (iv (IntKind.wrap .i64 ((-1)*b.gK)))<|SL.head (iv ((-1)*b.gK)) (congrArg (Value.int .i64) (IntWalk.i64_in _ om))<|SL.r 41 (iv (IntKind.wrap .i64 (a.gK+((-1)*b.gK))))<|SL.head (iv (a.gK+((-1)*b.gK))) (congrArg (Value.int .i64) (IntWalk.i64_in _ om))<|SL.ok dE (OK.index 42 26 1 (some ⟨b4,0,none⟩) ⟨b4,0,none⟩ 5 4 4 ⟨b4,4,none⟩ kr kr rfl om om rF)<|SL.done<|TL.stBox S17 1 3 4 (iv (a.gK+((-1)*b.gK))) [iv (a.gM+((-1)*b.gM)),iv (a.gKg+((-1)*b.gKg)),iv (a.gS+((-1)*b.gS)),iv (a.gA+((-1)*b.gA)),iv (a.gK+((-1)*b.gK))] [box b5 (bu b) 3,box b4 [iv (a.gM+((-1)*b.gM)),iv (a.gKg+((-1)*b.gKg)),iv (a.gS+((-1)*b.gS)),iv (a.gA+((-1)*b.gA)),iv (a.gK+((-1)*b.gK))] 3,box b3 bg 52,box b2 (bu b) 52,box b1 (bu a) 52] kr rfl kr kr rfl ?_
 intro w18 S18
 refine TL.done kr<|J.r 18 [false] [(43,.slice (some ⟨b4,0,none⟩) 5 5)] [10]<|J.c0 0 [] [] [] S18 44 hb109 (of_any (some ⟨b4,0,none⟩) 5 5 ([(a.gM+((-1)*b.gM)),(a.gKg+((-1)*b.gKg)),(a.gS+((-1)*b.gS)),(a.gA+((-1)*b.gA)),(a.gK+((-1)*b.gK))]) _ ((cc [(a.gM+((-1)*b.gM)),(a.gKg+((-1)*b.gKg)),(a.gS+((-1)*b.gS)),(a.gA+((-1)*b.gA)),(a.gK+((-1)*b.gK))] (S18.nth 1 rfl) rfl 5 rfl)) om) fun w19 S19=>J.head (.agg #[iv (a.gM+((-1)*b.gM)),iv (a.gKg+((-1)*b.gKg)),iv (a.gS+((-1)*b.gS)),iv (a.gA+((-1)*b.gA)),iv (a.gK+((-1)*b.gK))]) rfl<|J.nw 0 [] [] [] S19 11 bg 52 fun b6 w20 S20=>J.sb 0 [] [] [] S20 0 rfl [iv (a.gM+((-1)*b.gM)),iv (a.gKg+((-1)*b.gKg)),iv (a.gS+((-1)*b.gS)),iv (a.gA+((-1)*b.gA)),iv (a.gK+((-1)*b.gK))] rfl fun w21 S21=>J.lb 4 [] [] [] S21 0 rfl 45 (.agg #[iv (a.gM+((-1)*b.gM)),iv (a.gKg+((-1)*b.gKg)),iv (a.gS+((-1)*b.gS)),iv (a.gA+((-1)*b.gA)),iv (a.gK+((-1)*b.gK))])<|J.c0 0 [] [] [] S21 46 hb107 (eK (⟨a.gM+((-1)*b.gM),a.gKg+((-1)*b.gKg),a.gS+((-1)*b.gS),a.gA+((-1)*b.gA),a.gK+((-1)*b.gK)⟩:Unt) _) fun w22 S22=>J.bn 2 [] [] [] 47 (unB (⟨a.gM+((-1)*b.gM),a.gKg+((-1)*b.gKg),a.gS+((-1)*b.gS),a.gA+((-1)*b.gA),a.gK+((-1)*b.gK)⟩:Unt)) (fun fk3=>?_) fun fk3=>?_
 have fb3:=bE.1 fk3
 try dsimp only at fb3
 refine J.lb 4 [false] [] [] S22 0 rfl 49 (.agg #[iv (a.gM+((-1)*b.gM)),iv (a.gKg+((-1)*b.gKg)),iv (a.gS+((-1)*b.gS)),iv (a.gA+((-1)*b.gA)),iv (a.gK+((-1)*b.gK))])<|J.sb 0 [] [] [] S22 3 rfl [iv (a.gM+((-1)*b.gM)),iv (a.gKg+((-1)*b.gKg)),iv (a.gS+((-1)*b.gS)),iv (a.gA+((-1)*b.gA)),iv (a.gK+((-1)*b.gK))] rfl fun w23 S23=>J.r 2 [] [(7,iv 0)] []<|J.ret Tryz.f67 [.agg #[iv (a.gM+((-1)*b.gM)),iv (a.gKg+((-1)*b.gKg)),iv (a.gS+((-1)*b.gS)),iv (a.gA+((-1)*b.gA)),iv (a.gK+((-1)*b.gK))],iv 0] func67 ⟨⟨⟨b3,0,none⟩,kr,aS (S23.nth 3 rfl) kr⟩,kr,trivial⟩<|hR _ _ ?_
 obtain ⟨e1,e2⟩:=un_in (a:=a) (b:=b) (s:=(-1)) fk1 fk2 fk3
 exact⟨by rw[e1,e2];rfl,S23.nil⟩
 have fb4:=mt bE.2 (by rw[fk3];decide)
 try dsimp only at fb4
 refine J.sb 4 [true] [] [] S22 3 rfl bg rfl fun w24 S24=>J.r 2 [] [(7,iv 2)] []<|J.ret Tryz.f67 [.agg eH,iv 2] func67 ⟨⟨⟨b3,0,none⟩,kr,aS (S24.nth 3 rfl) kr⟩,kr,trivial⟩<|hR _ _ ?_
 obtain ⟨e1,e2⟩:=un_out (a:=a) (b:=b) (s:=(-1)) fk1 fk2 fk3
 exact⟨by rw[e1,e2];rfl,S24.nil⟩
 have fb5:=mt bE.2 (by rw[fk2];decide)
 try dsimp only at fb5
 refine J.sb 4 [true] [] [] S5 0 rfl bg rfl fun w25 S25=>J.r 2 [] [(7,iv 1)] []<|J.ret Tryz.f67 [.agg eH,iv 1] func67 ⟨⟨⟨b3,0,none⟩,kr,aS (S25.nth 0 rfl) kr⟩,kr,trivial⟩<|hR _ _ ?_
 obtain ⟨e1,e2⟩:=un_bad (a:=a) (b:=b) (s:=(-1)) (by first | exact .inl fk2 | exact .inr fk2)
 exact⟨by rw[e1,e2];rfl,S25.nil⟩
 have fb6:=mt bE.2 (by rw[fk1];decide)
 try dsimp only at fb6
 refine J.sb 9 [true] [] [] S4 0 rfl bg rfl fun w26 S26=>J.r 2 [] [(7,iv 1)] []<|J.ret Tryz.f67 [.agg eH,iv 1] func67 ⟨⟨⟨b3,0,none⟩,kr,aS (S26.nth 0 rfl) kr⟩,kr,trivial⟩<|hR _ _ ?_
 obtain ⟨e1,e2⟩:=un_bad (a:=a) (b:=b) (s:=(-1)) (by first | exact .inl fk1 | exact .inr fk1)
 exact⟨by rw[e1,e2];rfl,S26.nil⟩

theorem hb128:af prog 128:=fun _ _=>by kernel_rfl

theorem umul_any (a b:Unt) (w:World):Ret prog 128 #[.agg (bD a),.agg (bD b)] w (fun v w'=>v=.tuple #[.agg #[iv (unX a b 1).gM,iv (unX a b 1).gKg,iv (unX a b 1).gS,iv (unX a b 1).gA,iv (unX a b 1).gK],iv (unE a b 1)]∧Sep w [] w'):=by
 refine Ret.st (N:=11) func128 fun R hR S0=>J.nw 2 [] [] [] S0 2 (bu a) 52 fun b1 w1 S1=>J.nw 0 [] [] [] S1 3 (bu b) 52 fun b2 w2 S2=>J.nw 0 [] [] [] S2 4 bg 52 fun b3 w3 S3=>J.lb 4 [] [] [] S3 2 rfl 6 (.agg (bD a))<|J.lb 0 [] [] [] S3 1 rfl 7 (.agg (bD b))<|J.c0 0 [] [] [] S3 8 hb154 (ucomb_any a b _) fun w4 S4=>J.sb 2 [] [(10,iv (unE a b 1))] [] S4 0 rfl (bu (unX a b 1)) rfl fun w5 S5=>J.r 2 [] [(5,iv (unE a b 1))] []<|J.ret Tryz.f128 [.agg (bD (unX a b 1)),iv (unE a b 1)] func128 ⟨⟨⟨b3,0,none⟩,kr,aS (S5.nth 0 rfl) kr⟩,kr,trivial⟩<|hR _ _ ?_
 exact⟨rfl,S5.nil⟩

theorem hb129:af prog 129:=fun _ _=>by kernel_rfl

theorem udiv_any (a b:Unt) (w:World):Ret prog 129 #[.agg (bD a),.agg (bD b)] w (fun v w'=>v=.tuple #[.agg #[iv (unX a b (-1)).gM,iv (unX a b (-1)).gKg,iv (unX a b (-1)).gS,iv (unX a b (-1)).gA,iv (unX a b (-1)).gK],iv (unE a b (-1))]∧Sep w [] w'):=by
 refine Ret.st (N:=11) func129 fun R hR S0=>J.nw 2 [] [] [] S0 2 (bu a) 52 fun b1 w1 S1=>J.nw 0 [] [] [] S1 3 (bu b) 52 fun b2 w2 S2=>J.nw 0 [] [] [] S2 4 bg 52 fun b3 w3 S3=>J.lb 4 [] [] [] S3 2 rfl 6 (.agg (bD a))<|J.lb 0 [] [] [] S3 1 rfl 7 (.agg (bD b))<|J.c0 0 [] [] [] S3 8 hb154 (ucombm_any a b _) fun w4 S4=>J.sb 2 [] [(10,iv (unE a b (-1)))] [] S4 0 rfl (bu (unX a b (-1))) rfl fun w5 S5=>J.r 2 [] [(5,iv (unE a b (-1)))] []<|J.ret Tryz.f129 [.agg (bD (unX a b (-1))),iv (unE a b (-1))] func129 ⟨⟨⟨b3,0,none⟩,kr,aS (S5.nth 0 rfl) kr⟩,kr,trivial⟩<|hR _ _ ?_
 exact⟨rfl,S5.nil⟩

def dp (op:Int) (a b:Unt):Unt:=if op=3 then unX a b 1 else if op=4 then unX a b (-1) else a
def unRB (op:Int) (a b:Unt):Bool:=if op=3 then unE a b 1==0 else if op=4 then unE a b (-1)==0 else cj a b
theorem hb38:af prog 38:=fun _ _=>by kernel_rfl

theorem runits_any (op:Int) (a b:Unt) (w:World):Ret prog 38 #[iv op,.agg (bD a),.agg (bD b)] w (fun v w'=>v=.tuple #[.agg #[iv (dp op a b).gM,iv (dp op a b).gKg,iv (dp op a b).gS,iv (dp op a b).gA,iv (dp op a b).gK],.bool (unRB op a b)]∧Sep w [] w'):=by
 refine Ret.st (N:=39) func38 fun R hR S0=>J.nw 2 [] [] [] S0 4 (bu a) 52 fun b1 w1 S1=>J.nw 0 [] [] [] S1 5 (bu b) 52 fun b2 w2 S2=>J.nw 0 [] [] [] S2 6 bg 52 fun b3 w3 S3=>J.c 13 [] [(12,iv op)] [] 13 (op=3) (fun fk1=>?_) fun fk1=>?_
 refine J.lb 3 [true] [] [] S3 2 rfl 16 (.agg (bD a))<|J.lb 0 [] [] [] S3 1 rfl 17 (.agg (bD b))<|J.c0 0 [] [] [] S3 18 hb67 (rucomb_any a b _) fun w4 S4=>J.nw 3 [] [(20,iv (unE a b 1)),(19,.agg (bD (unX a b 1)))] [] S4 8 bg 52 fun b4 w5 S5=>J.sb 0 [] [] [] S5 0 rfl (bu (unX a b 1)) rfl fun w6 S6=>J.lb 4 [] [(9,iv (unE a b 1))] [] S6 0 rfl 21 (.agg (bD (unX a b 1)))<|J.sb 2 [] [(23,.bool ((unE a b 1)==0))] [] S6 1 rfl (bu (unX a b 1)) rfl fun w7 S7=>J.r 2 [] [(7,.bool ((unE a b 1)==0))] []<|J.ret Tryz.f38 [.agg (bD (unX a b 1)),.bool ((unE a b 1)==0)] func38 ⟨⟨⟨b3,0,none⟩,kr,aS (S7.nth 1 rfl) kr⟩,kr,trivial⟩<|hR _ _ ?_
 have e1:dp op a b=unX a b 1:=by unfold dp;(repeat first | rw[if_pos om] | rw[if_neg om])
 have e2:unRB op a b=(unE a b 1==0):=by unfold unRB;(repeat first | rw[if_pos om] | rw[if_neg om])<;>rfl
 exact⟨by rw[e1,e2];rfl,S7.nil⟩
 refine J.c 6 [false] [] [] 24 (op=4) (fun fk2=>?_) fun fk2=>?_
 refine J.lb 3 [true] [] [] S3 2 rfl 27 (.agg (bD a))<|J.lb 0 [] [] [] S3 1 rfl 28 (.agg (bD b))<|J.c0 0 [] [] [] S3 29 hb67 (rucombm_any a b _) fun w8 S8=>J.nw 3 [] [(31,iv (unE a b (-1))),(30,.agg (bD (unX a b (-1))))] [] S8 10 bg 52 fun b5 w9 S9=>J.sb 0 [] [] [] S9 0 rfl (bu (unX a b (-1))) rfl fun w10 S10=>J.lb 4 [] [(11,iv (unE a b (-1)))] [] S10 0 rfl 32 (.agg (bD (unX a b (-1))))<|J.sb 2 [] [(34,.bool ((unE a b (-1))==0))] [] S10 1 rfl (bu (unX a b (-1))) rfl fun w11 S11=>J.r 2 [] [(7,.bool ((unE a b (-1))==0))] []<|J.ret Tryz.f38 [.agg (bD (unX a b (-1))),.bool ((unE a b (-1))==0)] func38 ⟨⟨⟨b3,0,none⟩,kr,aS (S11.nth 1 rfl) kr⟩,kr,trivial⟩<|hR _ _ ?_
 have e1:dp op a b=unX a b (-1):=by unfold dp;(repeat first | rw[if_pos om] | rw[if_neg om])
 have e2:unRB op a b=(unE a b (-1)==0):=by unfold unRB;(repeat first | rw[if_pos om] | rw[if_neg om])<;>rfl
 exact⟨by rw[e1,e2];rfl,S11.nil⟩
 refine J.r 4 [false] [] []<|J.drawPlan (fun w_=>Sep w [box b2 (bu b) 52,box b1 (bu a) 52] w_) [(0,true),(1,true),(2,true),(3,true),(4,false),(5,true)] S3 Tryz.mixed kr (aE (T:=[(0,some 35,16),(0,some 36,16),(0,some 37,32),(6,some 38,206158430208),(1,none,34359738432),(31,some 7,274877906944)]) kr kr) ?_
 intro w12 S12
 refine PB.mk (S12.erase 0)<|PL.takeOK 0 (fun w_ S_=>OK.ldBox S_ 1 35 52 0 (.agg (bD a)) kr rfl kr) rfl<|PL.takeOK 1 (fun w_ S_=>OK.ldBox S_ 1 36 52 0 (.agg (bD a)) kr rfl kr) rfl<|PL.takeOK 2 (fun w_ S_=>OK.ldBox S_ 0 37 52 0 (.agg (bD b)) kr rfl kr) rfl<|PL.takeOK 3 (fun w_ S_=>OK.eqUnt 38 a b kr) rfl<|PL.stBox S12 0 52 0 (.agg (bD a)) (bu a) [box b3 (bu a) 52,box b2 (bu b) 52,box b1 (bu a) 52] kr rfl kr kr rfl ?_
 intro w13 S13
 refine PB.mk (S13.erase 0)<|PL.take 5 7 (.bool (cj a b)) (fun _ _=>kr)<|PL.done<|J.ret Tryz.f38 [.agg (bD a),.bool (cj a b)] func38 ⟨⟨⟨b3,0,none⟩,kr,aS (S13.nth 0 rfl) kr⟩,kr,trivial⟩<|hR _ _ ?_
 have e1:dp op a b=a:=by unfold dp;(repeat first | rw[if_pos om] | rw[if_neg om])
 have e2:unRB op a b=cj a b:=by unfold unRB;(repeat first | rw[if_pos om] | rw[if_neg om])<;>rfl
 exact⟨by rw[e1,e2];rfl,S13.nil⟩

end Go.Proofs.YtaoolgcddapegaaGreat

