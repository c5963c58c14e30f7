/- Walks of functions of this seat, printed by a program over the engine. Conditions: as each theorem says. -/
import Derived.Test.YtdneanhkcnfgdaaGreatDoorZtP4
import Derived.Test.YtdneanhkcnfgdaaGreatDoorZtEng18
set_option linter.unusedSimpArgs false
set_option linter.unusedVariables false
namespace Go.Proofs.YtdneanhkcnfgdaaGreatDoor
open Go.Eng Go.RowKit Go.Proofs.Tryz
set_option maxRecDepth 20000
set_option maxHeartbeats 20000000
abbrev bA:List Value:=[.int .i64 0,.string ByteArray.empty,.int .i64 0,.int .i64 0]
abbrev kvR7_2:Array Value:=#[.int .i64 0,.string ByteArray.empty,.int .i64 0,.int .i64 0]
theorem hb54:aJ prog 54:=fun _ _=>by kernel_rfl

theorem bI (b:Nat) (a:Option Addr) (n c:Nat) (k:Int) (t:Tk) (x:Int) (w0:World) (L0:List Eng.Claim) (w:World) (S0:Sep w0 (box b [.slice a n c,.int .i64 k,.int .i64 0,.int .i64 0,.int .i64 0] 66::L0) w):Ret prog 54 #[.pointer (some ⟨b,0,none⟩),.agg #[.int .i64 t.az,.string t.ag,.int .i64 t.ae,.int .i64 t.ac],.int .i64 x] w (fun v w'=>v=.tuple #[]∧Sep w0 (box b [.slice a n c,.int .i64 k,.int .i64 t.ae,.int .i64 t.ac,.int .i64 x] 66::L0) w'):=by
 refine Ret.st (N:=20) func54 fun R hR _=>J.nw 2 [] [] [] S0 4 [.int .i64 t.az,.string t.ag,.int .i64 t.ae,.int .i64 t.ac] 91 fun b1 w1 S1=>J.lb 6 [] [] [] S1 1 rfl 9 (.int .i64 0)<|J.lb 7 [true] [(12,.pointer (some ⟨b,0,none⟩)),(11,.pointer (some ⟨b,0,none⟩))] [] S1 0 rfl 14 (.agg #[.int .i64 t.ae,.int .i64 t.ac])<|J.sb 3 [] [(15,.int .i64 x)] [] S1 1 rfl [.slice a n c,.int .i64 k,.int .i64 t.ae,.int .i64 t.ac,.int .i64 0] rfl fun w2 S2=>J.sb 2 [] [] [] S2 1 rfl [.slice a n c,.int .i64 k,.int .i64 t.ae,.int .i64 t.ac,.int .i64 x] rfl fun w3 S3=>J.e 1 [] func54 (hR _ _ ?_)
 exact⟨rfl,(S3.erase 0)⟩

theorem hb53:aJ prog 53:=fun _ _=>by kernel_rfl

theorem next_in (b:Nat) (a:Option Addr) (c:Nat) (L:List Tk) (k:Int) (w0:World) (L0:List Eng.Claim) (w:World) (S0:Sep w0 (box b [.slice a L.length c,.int .i64 k,.int .i64 0,.int .i64 0,.int .i64 0] 66::aa tkE a c 91 4 L::L0) w) (hk:0≤k∧k≤(L.length:Int)) (hL:1≤L.length∧L.length≤1000000) (h1:k<(L.length:Int)):Ret prog 53 #[.pointer (some ⟨b,0,none⟩)] w (fun v w'=>v=.tuple #[.agg #[.int .i64 ((L.getD (k).toNat tk0).az),.string ((L.getD (k).toNat tk0).ag),.int .i64 ((L.getD (k).toNat tk0).ae),.int .i64 ((L.getD (k).toNat tk0).ac)],.bool true]∧Sep w0 (box b [.slice a L.length c,.int .i64 (k+1),.int .i64 0,.int .i64 0,.int .i64 0] 66::aa tkE a c 91 4 L::L0) w'):=by
 refine Ret.st (N:=52) func53 fun R hR _=>J.nw 2 [] [] [] S0 2 bA 91 fun b1 w1 S1=>J.lb 8 [] [] [] S1 1 rfl 7 (.int .i64 0)<|J.r 6 [false] [] []<|J.drawStill S1 10 Tryz.mixed kr kr kr ?_
 intro w2 S2
 refine SL.r 10 (.pointer (some ⟨b,0,none⟩))<|SL.r 11 (.pointer (some ⟨b,0,none⟩))<|SL.r 12 (.pointer (some ⟨b,1,none⟩))<|SL.lb S2 1 rfl 13 (.int .i64 k)<|SL.r 14 (.pointer (some ⟨b,0,none⟩))<|SL.r 15 (.pointer (some ⟨b,0,none⟩))<|SL.r 16 (.pointer (some ⟨b,0,none⟩))<|SL.lb S2 1 rfl 17 (.slice a L.length c)<|SL.r 18 (.int .i64 (L.length:Int))<|SL.r 19 (.bool (k==(L.length:Int)))<|SL.done ?_
 refine TL.done kr ?_
 have fk2:¬ (k=(L.length:Int)):=by omega
 refine J.h 0 [] [] [] 19 (.bool (k==(L.length:Int))) (.bool false) (congrArg Value.bool (beq_eq_false_iff_ne.2 fk2))<|J.lb 7 [false] [(34,.pointer (some ⟨b,0,none⟩))] [] S2 1 rfl 37 (.int .i64 k)<|J.wi 1 [] [] [] 38 (k+1)<|J.sb 2 [] [] [] S2 1 rfl [.slice a L.length c,.int .i64 (k+1),.int .i64 0,.int .i64 0,.int .i64 0] rfl fun w3 S3=>J.r 2 [] [] [] ?_
 obtain ⟨p1,hp1,hc1⟩:=(aX (S3.nth 2 rfl) _ rfl (fun _=>rfl) dE).at tk0 ((k+1)-1).toNat om
 refine J.drawTail S3 11 Tryz.mixed kr kr ?_
 intro w4 S4
 refine SL.r 41 (.pointer (some ⟨b,0,none⟩))<|SL.r 42 (.pointer (some ⟨b,0,none⟩))<|SL.r 43 (.pointer (some ⟨b,0,none⟩))<|SL.lb S4 1 rfl 44 (.slice a L.length c)<|SL.r 45 (.pointer (some ⟨b,0,none⟩))<|SL.r 46 (.pointer (some ⟨b,0,none⟩))<|SL.r 47 (.pointer (some ⟨b,1,none⟩))<|SL.lb S4 1 rfl 48 (.int .i64 (k+1))<|SL.r 49 (.int .i64 (IntKind.wrap .i64 ((k+1)-1)))<|SL.head (.int .i64 ((k+1)-1)) (congrArg (Value.int .i64) (IntWalk.i64_in _ om)) ?_
 obtain ⟨p2,hp2,hc2⟩:=(aX (S4.nth 2 rfl) _ rfl (fun _=>rfl) dE).at tk0 ((k+1)-1).toNat om
 refine SL.ok dE (OK.index 50 63 4 a p2 L.length ((k+1)-1).toNat ((k+1)-1) (p2.add (((k+1)-1).toNat*4)) kr kr hp2 om om rfl)<|SL.ok dE (OK.ldCells 51 91 (p2.add (((k+1)-1).toNat*4)) [.int .i64 ((L.getD ((k+1)-1).toNat tk0).az),.string ((L.getD ((k+1)-1).toNat tk0).ag),.int .i64 ((L.getD ((k+1)-1).toNat tk0).ae),.int .i64 ((L.getD ((k+1)-1).toNat tk0).ac)] kr kr kr hc2)<|SL.done<|TL.stBox S4 0 91 0 (.agg #[.int .i64 ((L.getD ((k+1)-1).toNat tk0).az),.string ((L.getD ((k+1)-1).toNat tk0).ag),.int .i64 ((L.getD ((k+1)-1).toNat tk0).ae),.int .i64 ((L.getD ((k+1)-1).toNat tk0).ac)]) [.int .i64 ((L.getD ((k+1)-1).toNat tk0).az),.string ((L.getD ((k+1)-1).toNat tk0).ag),.int .i64 ((L.getD ((k+1)-1).toNat tk0).ae),.int .i64 ((L.getD ((k+1)-1).toNat tk0).ac)] (box b1 [.int .i64 ((L.getD ((k+1)-1).toNat tk0).az),.string ((L.getD ((k+1)-1).toNat tk0).ag),.int .i64 ((L.getD ((k+1)-1).toNat tk0).ae),.int .i64 ((L.getD ((k+1)-1).toNat tk0).ac)] 91::box b [.slice a L.length c,.int .i64 (k+1),.int .i64 0,.int .i64 0,.int .i64 0] 66::aa tkE a c 91 4 L::L0) kr rfl kr kr rfl ?_
 intro w5 S5
 exact TL.r 3 (.bool true)<|TL.done kr<|J.ret Tryz.f53 [.agg #[.int .i64 ((L.getD ((k+1)-1).toNat tk0).az),.string ((L.getD ((k+1)-1).toNat tk0).ag),.int .i64 ((L.getD ((k+1)-1).toNat tk0).ae),.int .i64 ((L.getD ((k+1)-1).toNat tk0).ac)],.bool true] func53 ⟨⟨⟨b1,0,none⟩,kr,aI (S5.nth 0 rfl) kr⟩,kr,trivial⟩<|hR _ _<|⟨by rw[show(k+1-1).toNat=(k).toNat by omega];rfl,(S5.erase 0)⟩

theorem next_end (b:Nat) (a:Option Addr) (c:Nat) (L:List Tk) (k:Int) (w0:World) (L0:List Eng.Claim) (w:World) (S0:Sep w0 (box b [.slice a L.length c,.int .i64 k,.int .i64 0,.int .i64 0,.int .i64 0] 66::aa tkE a c 91 4 L::L0) w) (hk:0≤k∧k≤(L.length:Int)) (hL:1≤L.length∧L.length≤1000000) (h1:¬ k<(L.length:Int)):Ret prog 53 #[.pointer (some ⟨b,0,none⟩)] w (fun v w'=>v=.tuple #[.agg kvR7_2,.bool false]∧Sep w0 (box b [.slice a L.length c,.int .i64 k,.int .i64 (lnA L ((L.length:Int)-1)),.int .i64 (clA L ((L.length:Int)-1)),.int .i64 4] 66::aa tkE a c 91 4 L::L0) w'):=by
 refine Ret.st (N:=52) func53 fun R hR _=>J.nw 2 [] [] [] S0 2 bA 91 fun b1 w1 S1=>J.lb 8 [] [] [] S1 1 rfl 7 (.int .i64 0)<|J.r 6 [false] [] []<|J.drawStill S1 10 Tryz.mixed kr kr kr ?_
 intro w2 S2
 refine SL.r 10 (.pointer (some ⟨b,0,none⟩))<|SL.r 11 (.pointer (some ⟨b,0,none⟩))<|SL.r 12 (.pointer (some ⟨b,1,none⟩))<|SL.lb S2 1 rfl 13 (.int .i64 k)<|SL.r 14 (.pointer (some ⟨b,0,none⟩))<|SL.r 15 (.pointer (some ⟨b,0,none⟩))<|SL.r 16 (.pointer (some ⟨b,0,none⟩))<|SL.lb S2 1 rfl 17 (.slice a L.length c)<|SL.r 18 (.int .i64 (L.length:Int))<|SL.r 19 (.bool (k==(L.length:Int)))<|SL.done ?_
 refine TL.done kr ?_
 have fk2:k=(L.length:Int):=by omega
 refine J.h 0 [] [] [] 19 (.bool (k==(L.length:Int))) (.bool true) (congrArg Value.bool (beq_iff_eq.2 fk2))<|J.r 2 [true] [] [] ?_
 obtain ⟨p1,hp1,hc1⟩:=(aX (S2.nth 2 rfl) _ rfl (fun _=>rfl) dE).at tk0 (k-1).toNat om
 refine J.drawTail S2 12 Tryz.mixed kr kr ?_
 intro w3 S3
 refine SL.r 20 (.pointer (some ⟨b,0,none⟩))<|SL.r 21 (.pointer (some ⟨b,0,none⟩))<|SL.r 22 (.pointer (some ⟨b,0,none⟩))<|SL.r 23 (.pointer (some ⟨b,0,none⟩))<|SL.lb S3 1 rfl 24 (.slice a L.length c)<|SL.r 25 (.pointer (some ⟨b,0,none⟩))<|SL.r 26 (.pointer (some ⟨b,0,none⟩))<|SL.r 27 (.pointer (some ⟨b,1,none⟩))<|SL.lb S3 1 rfl 28 (.int .i64 k)<|SL.r 29 (.int .i64 (IntKind.wrap .i64 (k-1)))<|SL.head (.int .i64 (k-1)) (congrArg (Value.int .i64) (IntWalk.i64_in _ om)) ?_
 obtain ⟨p2,hp2,hc2⟩:=(aX (S3.nth 2 rfl) _ rfl (fun _=>rfl) dE).at tk0 (k-1).toNat om
 refine SL.ok dE (OK.index 30 63 4 a p2 L.length (k-1).toNat (k-1) (p2.add ((k-1).toNat*4)) kr kr hp2 om om rfl)<|SL.ok dE (OK.ldCells 31 91 (p2.add ((k-1).toNat*4)) [.int .i64 ((L.getD (k-1).toNat tk0).az),.string ((L.getD (k-1).toNat tk0).ag),.int .i64 ((L.getD (k-1).toNat tk0).ae),.int .i64 ((L.getD (k-1).toNat tk0).ac)] kr kr kr hc2)<|SL.done ?_
 have S4:Sep w0 (box b [.slice a L.length c,.int .i64 k,.int .i64 0,.int .i64 0,.int .i64 0] 66::box b1 bA 91::aa tkE a c 91 4 L::L0) w3:=S3.front 1 rfl
 clear S3
 refine TL.callF 32 54 #[.pointer (some ⟨b,0,none⟩),.agg #[.int .i64 ((L.getD (k-1).toNat tk0).az),.string ((L.getD (k-1).toNat tk0).ag),.int .i64 ((L.getD (k-1).toNat tk0).ae),.int .i64 ((L.getD (k-1).toNat tk0).ac)],.int .i64 4] hb54 kr (bI b a L.length c k (L.getD (k-1).toNat tk0) 4 _ _ _ S4) ?_
 rintro _ w4 ⟨rfl,S5⟩
 replace S5:Sep w0 (box b [.slice a L.length c,.int .i64 k,.int .i64 ((L.getD (k-1).toNat tk0).ae),.int .i64 ((L.getD (k-1).toNat tk0).ac),.int .i64 4] 66::box b1 bA 91::aa tkE a c 91 4 L::L0) w4:=S5
 clear S4
 have S6:Sep w0 (box b1 bA 91::box b [.slice a L.length c,.int .i64 k,.int .i64 ((L.getD (k-1).toNat tk0).ae),.int .i64 ((L.getD (k-1).toNat tk0).ac),.int .i64 4] 66::aa tkE a c 91 4 L::L0) w4:=S5.front 1 rfl
 clear S5
 exact TL.done kr<|J.sb 3 [] [] [] S6 0 rfl bA rfl fun w5 S7=>J.r 2 [] [(3,.bool false)] []<|J.ret Tryz.f53 [.agg kvR7_2,.bool false] func53 ⟨⟨⟨b1,0,none⟩,kr,aI (S7.nth 0 rfl) kr⟩,kr,trivial⟩<|hR _ _<|⟨rfl,by unfold lnA clA;rw[show((L.length:Int)-1)=k-1 by omega];exact(S7.erase 0)⟩

theorem next_no (b:Nat) (a:Option Addr) (c:Nat) (L:List Tk) (k l cc e:Int) (w0:World) (L0:List Eng.Claim) (w:World) (S0:Sep w0 (box b [.slice a L.length c,.int .i64 k,.int .i64 l,.int .i64 cc,.int .i64 e] 66::aa tkE a c 91 4 L::L0) w) (he:e≠0):Ret prog 53 #[.pointer (some ⟨b,0,none⟩)] w (fun v w'=>v=.tuple #[.agg kvR7_2,.bool false]∧Sep w0 (box b [.slice a L.length c,.int .i64 k,.int .i64 l,.int .i64 cc,.int .i64 e] 66::aa tkE a c 91 4 L::L0) w'):=by
 refine Ret.st (N:=52) func53 fun R hR _=>J.nw 2 [] [] [] S0 2 bA 91 fun b1 w1 S1=>J.lb 8 [] [] [] S1 1 rfl 7 (.int .i64 e) ?_
 have fk2:¬ (e=0):=he
 exact J.h 2 [] [] [] 8 (.bool (e != 0)) (.bool true) (congrArg Value.bool (bne_iff_ne.2 fk2))<|J.sb 4 [true] [] [] S1 0 rfl bA rfl fun w2 S2=>J.r 2 [] [(3,.bool false)] []<|J.ret Tryz.f53 [.agg kvR7_2,.bool false] func53 ⟨⟨⟨b1,0,none⟩,kr,aI (S2.nth 0 rfl) kr⟩,kr,trivial⟩<|hR _ _<|⟨rfl,(S2.erase 0)⟩

theorem hb55:aJ prog 55:=fun _ _=>by kernel_rfl

theorem rname_in (b:Nat) (a:Option Addr) (c:Nat) (L:List Tk) (k:Int) (w0:World) (L0:List Eng.Claim) (w:World) (S0:Sep w0 (box b [.slice a L.length c,.int .i64 k,.int .i64 0,.int .i64 0,.int .i64 0] 66::aa tkE a c 91 4 L::L0) w) (hk:0≤k∧k≤(L.length:Int)) (hL:1≤L.length∧L.length≤1000000) (htk:∀ j,j<L.length→1≤(L.getD j tk0).ag.size∧(L.getD j tk0).ag.size≤1000000) (h1:k<(L.length:Int)) (h2:aV (L.getD (k).toNat tk0).ag=true):Ret prog 55 #[.pointer (some ⟨b,0,none⟩)] w (fun v w'=>v=.tuple #[.agg #[.int .i64 ((L.getD (k).toNat tk0).az),.string ((L.getD (k).toNat tk0).ag),.int .i64 ((L.getD (k).toNat tk0).ae),.int .i64 ((L.getD (k).toNat tk0).ac)],.bool true]∧Sep w0 (box b [.slice a L.length c,.int .i64 (k+1),.int .i64 0,.int .i64 0,.int .i64 0] 66::aa tkE a c 91 4 L::L0) w'):=by
 refine Ret.st (N:=24) func55 fun R hR _=>?_
 have htk2:=htk (k).toNat om
 refine J.nw 2 [] [] [] S0 2 bA 91 fun b1 w1 S1=>J.r 5 [] [(7,.pointer (some ⟨b,0,none⟩))] [] ?_
 have fk1:k<(L.length:Int):=h1
 have S2:=S1.front 2 rfl
 have S3:Sep w0 (box b [.slice a L.length c,.int .i64 k,.int .i64 0,.int .i64 0,.int .i64 0] 66::aa tkE a c 91 4 L::box b1 bA 91::L0) w1:=S2.front 2 rfl
 refine J.callF 8 53 #[.pointer (some ⟨b,0,none⟩)] hb53 kr (next_in b a c L k _ _ _ S3 om hL fk1) ?_
 rintro _ w2 ⟨rfl,S4⟩
 replace S4:Sep w0 (box b [.slice a L.length c,.int .i64 (k+1),.int .i64 0,.int .i64 0,.int .i64 0] 66::aa tkE a c 91 4 L::box b1 bA 91::L0) w2:=S4
 refine J.nw 3 [] [(10,.bool true),(9,.agg #[.int .i64 ((L.getD (k).toNat tk0).az),.string ((L.getD (k).toNat tk0).ag),.int .i64 ((L.getD (k).toNat tk0).ae),.int .i64 ((L.getD (k).toNat tk0).ac)])] [] S4 4 bA 91 fun b2 w3 S5=>J.sb 0 [] [] [] S5 0 rfl [.int .i64 ((L.getD (k).toNat tk0).az),.string ((L.getD (k).toNat tk0).ag),.int .i64 ((L.getD (k).toNat tk0).ae),.int .i64 ((L.getD (k).toNat tk0).ac)] rfl fun w4 S6=>J.lb 8 [] [(12,.bool true),(5,.bool true)] [] S6 0 rfl 14 (.string ((L.getD (k).toNat tk0).ag))<|J.c0 0 [] [] [] S6 15 hb58 (name_any ((L.getD (k).toNat tk0).ag) _ (by first | omega | decide)) fun w5 S7=>?_
 have fk3:(aV ((L.getD (k).toNat tk0).ag))=true:=h2
 exact J.h 3 [] [] [] 17 (.bool (!(aV ((L.getD (k).toNat tk0).ag)))) (.bool false) (congrArg Value.bool (by rw[fk3];rfl))<|J.lb 4 [false] [] [] S7 0 rfl 22 (.agg #[.int .i64 ((L.getD (k).toNat tk0).az),.string ((L.getD (k).toNat tk0).ag),.int .i64 ((L.getD (k).toNat tk0).ae),.int .i64 ((L.getD (k).toNat tk0).ac)])<|J.sb 1 [] [(23,.bool true)] [] S7 3 rfl [.int .i64 ((L.getD (k).toNat tk0).az),.string ((L.getD (k).toNat tk0).ag),.int .i64 ((L.getD (k).toNat tk0).ae),.int .i64 ((L.getD (k).toNat tk0).ac)] rfl fun w6 S8=>J.r 2 [] [(3,.bool true)] []<|J.ret Tryz.f55 [.agg #[.int .i64 ((L.getD (k).toNat tk0).az),.string ((L.getD (k).toNat tk0).ag),.int .i64 ((L.getD (k).toNat tk0).ae),.int .i64 ((L.getD (k).toNat tk0).ac)],.bool true] func55 ⟨⟨⟨b1,0,none⟩,kr,aI (S8.nth 3 rfl) kr⟩,kr,trivial⟩<|hR _ _<|⟨rfl,((S8.erase 3).erase 0)⟩

theorem rname_miss (b:Nat) (a:Option Addr) (c:Nat) (L:List Tk) (k:Int) (w0:World) (L0:List Eng.Claim) (w:World) (S0:Sep w0 (box b [.slice a L.length c,.int .i64 k,.int .i64 0,.int .i64 0,.int .i64 0] 66::aa tkE a c 91 4 L::L0) w) (hk:0≤k∧k≤(L.length:Int)) (hL:1≤L.length∧L.length≤1000000) (htk:∀ j,j<L.length→1≤(L.getD j tk0).ag.size∧(L.getD j tk0).ag.size≤1000000) (h1:k<(L.length:Int)) (h2:aV (L.getD (k).toNat tk0).ag=false):Ret prog 55 #[.pointer (some ⟨b,0,none⟩)] w (fun v w'=>v=.tuple #[.agg #[.int .i64 ((L.getD (k).toNat tk0).az),.string ((L.getD (k).toNat tk0).ag),.int .i64 ((L.getD (k).toNat tk0).ae),.int .i64 ((L.getD (k).toNat tk0).ac)],.bool false]∧Sep w0 (box b [.slice a L.length c,.int .i64 (k+1),.int .i64 (lnA L k),.int .i64 (clA L k),.int .i64 3] 66::aa tkE a c 91 4 L::L0) w'):=by
 refine Ret.st (N:=24) func55 fun R hR _=>?_
 have htk2:=htk (k).toNat om
 refine J.nw 2 [] [] [] S0 2 bA 91 fun b1 w1 S1=>J.r 5 [] [(7,.pointer (some ⟨b,0,none⟩))] [] ?_
 have fk1:k<(L.length:Int):=h1
 have S2:=S1.front 2 rfl
 have S3:Sep w0 (box b [.slice a L.length c,.int .i64 k,.int .i64 0,.int .i64 0,.int .i64 0] 66::aa tkE a c 91 4 L::box b1 bA 91::L0) w1:=S2.front 2 rfl
 refine J.callF 8 53 #[.pointer (some ⟨b,0,none⟩)] hb53 kr (next_in b a c L k _ _ _ S3 om hL fk1) ?_
 rintro _ w2 ⟨rfl,S4⟩
 replace S4:Sep w0 (box b [.slice a L.length c,.int .i64 (k+1),.int .i64 0,.int .i64 0,.int .i64 0] 66::aa tkE a c 91 4 L::box b1 bA 91::L0) w2:=S4
 refine J.nw 3 [] [(10,.bool true),(9,.agg #[.int .i64 ((L.getD (k).toNat tk0).az),.string ((L.getD (k).toNat tk0).ag),.int .i64 ((L.getD (k).toNat tk0).ae),.int .i64 ((L.getD (k).toNat tk0).ac)])] [] S4 4 bA 91 fun b2 w3 S5=>J.sb 0 [] [] [] S5 0 rfl [.int .i64 ((L.getD (k).toNat tk0).az),.string ((L.getD (k).toNat tk0).ag),.int .i64 ((L.getD (k).toNat tk0).ae),.int .i64 ((L.getD (k).toNat tk0).ac)] rfl fun w4 S6=>J.lb 8 [] [(12,.bool true),(5,.bool true)] [] S6 0 rfl 14 (.string ((L.getD (k).toNat tk0).ag))<|J.c0 0 [] [] [] S6 15 hb58 (name_any ((L.getD (k).toNat tk0).ag) _ (by first | omega | decide)) fun w5 S7=>?_
 have fk3:(aV ((L.getD (k).toNat tk0).ag))=false:=h2
 refine J.h 3 [] [] [] 17 (.bool (!(aV ((L.getD (k).toNat tk0).ag)))) (.bool true) (congrArg Value.bool (by rw[fk3];rfl))<|J.lb 4 [true] [(18,.pointer (some ⟨b,0,none⟩))] [] S7 0 rfl 19 (.agg #[.int .i64 ((L.getD (k).toNat tk0).az),.string ((L.getD (k).toNat tk0).ag),.int .i64 ((L.getD (k).toNat tk0).ae),.int .i64 ((L.getD (k).toNat tk0).ac)]) ?_
 have S8:Sep w0 (box b [.slice a L.length c,.int .i64 (k+1),.int .i64 0,.int .i64 0,.int .i64 0] 66::box b2 [.int .i64 ((L.getD (k).toNat tk0).az),.string ((L.getD (k).toNat tk0).ag),.int .i64 ((L.getD (k).toNat tk0).ae),.int .i64 ((L.getD (k).toNat tk0).ac)] 91::aa tkE a c 91 4 L::box b1 bA 91::L0) w5:=S7.front 1 rfl
 refine J.callF 20 54 #[.pointer (some ⟨b,0,none⟩),.agg #[.int .i64 ((L.getD (k).toNat tk0).az),.string ((L.getD (k).toNat tk0).ag),.int .i64 ((L.getD (k).toNat tk0).ae),.int .i64 ((L.getD (k).toNat tk0).ac)],.int .i64 3] hb54 kr (bI b a L.length c (k+1) (L.getD (k).toNat tk0) 3 _ _ _ S8) ?_
 rintro _ w6 ⟨rfl,S9⟩
 replace S9:Sep w0 (box b [.slice a L.length c,.int .i64 (k+1),.int .i64 ((L.getD (k).toNat tk0).ae),.int .i64 ((L.getD (k).toNat tk0).ac),.int .i64 3] 66::box b2 [.int .i64 ((L.getD (k).toNat tk0).az),.string ((L.getD (k).toNat tk0).ag),.int .i64 ((L.getD (k).toNat tk0).ae),.int .i64 ((L.getD (k).toNat tk0).ac)] 91::aa tkE a c 91 4 L::box b1 bA 91::L0) w6:=S9
 exact J.lb 3 [] [] [] S9 1 rfl 21 (.agg #[.int .i64 ((L.getD (k).toNat tk0).az),.string ((L.getD (k).toNat tk0).ag),.int .i64 ((L.getD (k).toNat tk0).ae),.int .i64 ((L.getD (k).toNat tk0).ac)])<|J.sb 0 [] [] [] S9 3 rfl [.int .i64 ((L.getD (k).toNat tk0).az),.string ((L.getD (k).toNat tk0).ag),.int .i64 ((L.getD (k).toNat tk0).ae),.int .i64 ((L.getD (k).toNat tk0).ac)] rfl fun w7 S10=>J.r 2 [] [(3,.bool false)] []<|J.ret Tryz.f55 [.agg #[.int .i64 ((L.getD (k).toNat tk0).az),.string ((L.getD (k).toNat tk0).ag),.int .i64 ((L.getD (k).toNat tk0).ae),.int .i64 ((L.getD (k).toNat tk0).ac)],.bool false] func55 ⟨⟨⟨b1,0,none⟩,kr,aI (S10.nth 3 rfl) kr⟩,kr,trivial⟩<|hR _ _<|⟨rfl,((S10.erase 3).erase 1)⟩

theorem rname_end (b:Nat) (a:Option Addr) (c:Nat) (L:List Tk) (k:Int) (w0:World) (L0:List Eng.Claim) (w:World) (S0:Sep w0 (box b [.slice a L.length c,.int .i64 k,.int .i64 0,.int .i64 0,.int .i64 0] 66::aa tkE a c 91 4 L::L0) w) (hk:0≤k∧k≤(L.length:Int)) (hL:1≤L.length∧L.length≤1000000) (h1:¬ k<(L.length:Int)):Ret prog 55 #[.pointer (some ⟨b,0,none⟩)] w (fun v w'=>v=.tuple #[.agg kvR7_2,.bool false]∧Sep w0 (box b [.slice a L.length c,.int .i64 k,.int .i64 (lnA L ((L.length:Int)-1)),.int .i64 (clA L ((L.length:Int)-1)),.int .i64 4] 66::aa tkE a c 91 4 L::L0) w'):=by
 refine Ret.st (N:=24) func55 fun R hR _=>J.nw 2 [] [] [] S0 2 bA 91 fun b1 w1 S1=>J.r 5 [] [(7,.pointer (some ⟨b,0,none⟩))] [] ?_
 have fk1:¬ (k<(L.length:Int)):=h1
 have S2:=S1.front 2 rfl
 have S3:Sep w0 (box b [.slice a L.length c,.int .i64 k,.int .i64 0,.int .i64 0,.int .i64 0] 66::aa tkE a c 91 4 L::box b1 bA 91::L0) w1:=S2.front 2 rfl
 refine J.callF 8 53 #[.pointer (some ⟨b,0,none⟩)] hb53 kr (next_end b a c L k _ _ _ S3 om hL fk1) ?_
 rintro _ w2 ⟨rfl,S4⟩
 replace S4:Sep w0 (box b [.slice a L.length c,.int .i64 k,.int .i64 (lnA L ((L.length:Int)-1)),.int .i64 (clA L ((L.length:Int)-1)),.int .i64 4] 66::aa tkE a c 91 4 L::box b1 bA 91::L0) w2:=S4
 exact J.nw 3 [] [(10,.bool false),(9,.agg kvR7_2)] [] S4 4 bA 91 fun b2 w3 S5=>J.sb 0 [] [] [] S5 0 rfl bA rfl fun w4 S6=>J.lb 17 [false] [(5,.bool false)] [] S6 0 rfl 22 (.agg kvR7_2)<|J.sb 1 [] [(23,.bool false)] [] S6 3 rfl bA rfl fun w5 S7=>J.r 2 [] [(3,.bool false)] []<|J.ret Tryz.f55 [.agg kvR7_2,.bool false] func55 ⟨⟨⟨b1,0,none⟩,kr,aI (S7.nth 3 rfl) kr⟩,kr,trivial⟩<|hR _ _<|⟨rfl,((S7.erase 3).erase 0)⟩

theorem rname_no (b:Nat) (a:Option Addr) (c:Nat) (L:List Tk) (k l cc e:Int) (w0:World) (L0:List Eng.Claim) (w:World) (S0:Sep w0 (box b [.slice a L.length c,.int .i64 k,.int .i64 l,.int .i64 cc,.int .i64 e] 66::aa tkE a c 91 4 L::L0) w) (he:e≠0):Ret prog 55 #[.pointer (some ⟨b,0,none⟩)] w (fun v w'=>v=.tuple #[.agg kvR7_2,.bool false]∧Sep w0 (box b [.slice a L.length c,.int .i64 k,.int .i64 l,.int .i64 cc,.int .i64 e] 66::aa tkE a c 91 4 L::L0) w'):=by
 refine Ret.st (N:=24) func55 fun R hR _=>J.nw 2 [] [] [] S0 2 bA 91 fun b1 w1 S1=>J.r 5 [] [(7,.pointer (some ⟨b,0,none⟩))] [] ?_
 have S2:=S1.front 2 rfl
 have S3:Sep w0 (box b [.slice a L.length c,.int .i64 k,.int .i64 l,.int .i64 cc,.int .i64 e] 66::aa tkE a c 91 4 L::box b1 bA 91::L0) w1:=S2.front 2 rfl
 refine J.callF 8 53 #[.pointer (some ⟨b,0,none⟩)] hb53 kr (next_no b a c L k l cc e _ _ _ S3 (by first | assumption | decide | omega)) ?_
 rintro _ w2 ⟨rfl,S4⟩
 replace S4:Sep w0 (box b [.slice a L.length c,.int .i64 k,.int .i64 l,.int .i64 cc,.int .i64 e] 66::aa tkE a c 91 4 L::box b1 bA 91::L0) w2:=S4
 exact J.nw 3 [] [(10,.bool false),(9,.agg kvR7_2)] [] S4 4 bA 91 fun b2 w3 S5=>J.sb 0 [] [] [] S5 0 rfl bA rfl fun w4 S6=>J.lb 17 [false] [(5,.bool false)] [] S6 0 rfl 22 (.agg kvR7_2)<|J.sb 1 [] [(23,.bool false)] [] S6 3 rfl bA rfl fun w5 S7=>J.r 2 [] [(3,.bool false)] []<|J.ret Tryz.f55 [.agg kvR7_2,.bool false] func55 ⟨⟨⟨b1,0,none⟩,kr,aI (S7.nth 3 rfl) kr⟩,kr,trivial⟩<|hR _ _<|⟨rfl,((S7.erase 3).erase 0)⟩

end Go.Proofs.YtdneanhkcnfgdaaGreatDoor

namespace Go.Proofs.YtdneanhkcnfgdaaGreatDoor
open Go.Eng Go.RowKit Go.Proofs.Tryz
set_option maxRecDepth 20000
set_option maxHeartbeats 20000000
abbrev kvR8_1:List Value:=[.int .i64 0,.string ByteArray.empty,.int .i64 0,.int .i64 0]
theorem hb23:aJ prog 23:=fun _ _=>by kernel_rfl

theorem word_ok (b:Nat) (a:Option Addr) (c:Nat) (L:List Tk) (k:Int) (s:ByteArray) (w0:World) (L0:List Eng.Claim) (w:World) (S0:Sep w0 (box b [.slice a L.length c,.int .i64 k,.int .i64 0,.int .i64 0,.int .i64 0] 66::aa tkE a c 91 4 L::L0) w) (hk:0≤k∧k≤(L.length:Int)) (hL:1≤L.length∧L.length≤1000000):Ret prog 23 #[.pointer (some ⟨b,0,none⟩),.string s] w (fun v w'=>∃ e' a' l' c',v=.tuple #[]∧Rz (wdZ L s (.ok k)) e' a' l' c'∧(0≤a'∧a'≤(L.length:Int))∧Sep w0 (box b [.slice a L.length c,.int .i64 a',.int .i64 l',.int .i64 c',.int .i64 e'] 66::aa tkE a c 91 4 L::L0) w'):=by
 refine Ret.st (N:=21) func23 fun R hR _=>J.r 3 [] [(7,.pointer (some ⟨b,0,none⟩))] [] ?_
 by_cases fk1:k<(L.length:Int)
 refine J.callF 8 53 #[.pointer (some ⟨b,0,none⟩)] hb53 kr (next_in b a c L k _ _ _ S0 om hL fk1) ?_
 rintro _ w1 ⟨rfl,S1⟩
 replace S1:Sep w0 (box b [.slice a L.length c,.int .i64 (k+1),.int .i64 0,.int .i64 0,.int .i64 0] 66::aa tkE a c 91 4 L::L0) w1:=S1
 refine J.nw 3 [] [(10,.bool true),(9,.agg #[.int .i64 ((L.getD (k).toNat tk0).az),.string ((L.getD (k).toNat tk0).ag),.int .i64 ((L.getD (k).toNat tk0).ae),.int .i64 ((L.getD (k).toNat tk0).ac)])] [] S1 4 kvR8_1 91 fun b1 w2 S2=>J.sb 0 [] [] [] S2 0 rfl [.int .i64 ((L.getD (k).toNat tk0).az),.string ((L.getD (k).toNat tk0).ag),.int .i64 ((L.getD (k).toNat tk0).ae),.int .i64 ((L.getD (k).toNat tk0).ac)] rfl fun w3 S3=>J.lb 7 [] [(12,.bool true)] [] S3 0 rfl 14 (.string ((L.getD (k).toNat tk0).ag))<|J.b 4 [] [] [] 17 (!(((L.getD (k).toNat tk0).ag).toList==s.toList)) (fun fk2=>?_) fun fk2=>?_
 refine J.lb 3 [true] [(18,.pointer (some ⟨b,0,none⟩))] [] S3 0 rfl 19 (.agg #[.int .i64 ((L.getD (k).toNat tk0).az),.string ((L.getD (k).toNat tk0).ag),.int .i64 ((L.getD (k).toNat tk0).ae),.int .i64 ((L.getD (k).toNat tk0).ac)]) ?_
 have S4:Sep w0 (box b [.slice a L.length c,.int .i64 (k+1),.int .i64 0,.int .i64 0,.int .i64 0] 66::box b1 [.int .i64 ((L.getD (k).toNat tk0).az),.string ((L.getD (k).toNat tk0).ag),.int .i64 ((L.getD (k).toNat tk0).ae),.int .i64 ((L.getD (k).toNat tk0).ac)] 91::aa tkE a c 91 4 L::L0) w3:=S3.front 1 rfl
 refine J.callF 20 54 #[.pointer (some ⟨b,0,none⟩),.agg #[.int .i64 ((L.getD (k).toNat tk0).az),.string ((L.getD (k).toNat tk0).ag),.int .i64 ((L.getD (k).toNat tk0).ae),.int .i64 ((L.getD (k).toNat tk0).ac)],.int .i64 3] hb54 kr (bI b a L.length c (k+1) (L.getD (k).toNat tk0) 3 _ _ _ S4) ?_
 rintro _ w4 ⟨rfl,S5⟩
 replace S5:Sep w0 (box b [.slice a L.length c,.int .i64 (k+1),.int .i64 ((L.getD (k).toNat tk0).ae),.int .i64 ((L.getD (k).toNat tk0).ac),.int .i64 3] 66::box b1 [.int .i64 ((L.getD (k).toNat tk0).az),.string ((L.getD (k).toNat tk0).ag),.int .i64 ((L.getD (k).toNat tk0).ae),.int .i64 ((L.getD (k).toNat tk0).ac)] 91::aa tkE a c 91 4 L::L0) w4:=S5
 refine J.e 1 [] func23 (hR _ _ ?_)
 exact⟨_,_,_,_,rfl,aP (wd_miss fk1 (nbT fk2)) (bp dE),⟨om,om⟩,(S5.erase 1)⟩
 refine J.e 2 [] func23 (hR _ _ ?_)
 exact⟨_,_,_,_,rfl,aP (wd_hit fk1 (nbF fk2)) bB,⟨om,om⟩,(S3.erase 0)⟩
 refine J.callF 8 53 #[.pointer (some ⟨b,0,none⟩)] hb53 kr (next_end b a c L k _ _ _ S0 om hL fk1) ?_
 rintro _ w5 ⟨rfl,S6⟩
 replace S6:Sep w0 (box b [.slice a L.length c,.int .i64 k,.int .i64 (lnA L ((L.length:Int)-1)),.int .i64 (clA L ((L.length:Int)-1)),.int .i64 4] 66::aa tkE a c 91 4 L::L0) w5:=S6
 refine J.nw 3 [] [(10,.bool false),(9,.agg #[.int .i64 0,.string ByteArray.empty,.int .i64 0,.int .i64 0])] [] S6 4 kvR8_1 91 fun b2 w6 S7=>J.sb 0 [] [] [] S7 0 rfl kvR8_1 rfl fun w7 S8=>J.e 14 [] func23 (hR _ _ ?_)
 exact⟨_,_,_,_,rfl,aP (wd_end fk1) (rz_en rfl),⟨om,om⟩,(S8.erase 0)⟩

theorem word_no (b:Nat) (a:Option Addr) (c:Nat) (L:List Tk) (k l cc e:Int) (s:ByteArray) (w0:World) (L0:List Eng.Claim) (w:World) (S0:Sep w0 (box b [.slice a L.length c,.int .i64 k,.int .i64 l,.int .i64 cc,.int .i64 e] 66::aa tkE a c 91 4 L::L0) w) (hk:0≤k∧k≤(L.length:Int)) (he:e≠0):Ret prog 23 #[.pointer (some ⟨b,0,none⟩),.string s] w (fun v w'=>∃ e' a' l' c',v=.tuple #[]∧Rz (.no e l cc) e' a' l' c'∧(0≤a'∧a'≤(L.length:Int))∧Sep w0 (box b [.slice a L.length c,.int .i64 a',.int .i64 l',.int .i64 c',.int .i64 e'] 66::aa tkE a c 91 4 L::L0) w'):=by
 refine Ret.st (N:=21) func23 fun R hR _=>J.r 3 [] [(7,.pointer (some ⟨b,0,none⟩))] []<|J.callF 8 53 #[.pointer (some ⟨b,0,none⟩)] hb53 kr (next_no b a c L k l cc e _ _ _ S0 (by first | assumption | decide | omega)) ?_
 rintro _ w1 ⟨rfl,S1⟩
 replace S1:Sep w0 (box b [.slice a L.length c,.int .i64 k,.int .i64 l,.int .i64 cc,.int .i64 e] 66::aa tkE a c 91 4 L::L0) w1:=S1
 refine J.nw 3 [] [(10,.bool false),(9,.agg #[.int .i64 0,.string ByteArray.empty,.int .i64 0,.int .i64 0])] [] S1 4 kvR8_1 91 fun b1 w2 S2=>J.sb 0 [] [] [] S2 0 rfl kvR8_1 rfl fun w3 S3=>J.e 14 [] func23 (hR _ _ ?_)
 exact⟨_,_,_,_,rfl,rz_no he,hk,(S3.erase 0)⟩

theorem word_any (b:Nat) (a:Option Addr) (c:Nat) (L:List Tk) (X:Pz) (e k l cc:Int) (s:ByteArray) (w0:World) (L0:List Eng.Claim) (w:World) (S0:Sep w0 (box b [.slice a L.length c,.int .i64 k,.int .i64 l,.int .i64 cc,.int .i64 e] 66::aa tkE a c 91 4 L::L0) w) (hz:Rz X e k l cc) (hk:0≤k∧k≤(L.length:Int)) (hL:1≤L.length∧L.length≤1000000):Ret prog 23 #[.pointer (some ⟨b,0,none⟩),.string s] w (fun v w'=>∃ e' a' l' c',v=.tuple #[]∧Rz (wdZ L s (X)) e' a' l' c'∧(0≤a'∧a'≤(L.length:Int))∧Sep w0 (box b [.slice a L.length c,.int .i64 a',.int .i64 l',.int .i64 c',.int .i64 e'] 66::aa tkE a c 91 4 L::L0) w'):=by
  cases X with
  | ok j=>obtain ⟨h1,h2,h3,h4⟩:=hz;subst h1 h2 h3 h4;exact word_ok b a c L k s w0 L0 w S0 hk hL
  | no x y z=>obtain ⟨h1,h2,h3,h4⟩:=hz;subst h1 h3 h4;exact word_no b a c L k l cc e s w0 L0 w S0 hk h2
theorem hb27:aJ prog 27:=fun _ _=>by kernel_rfl

theorem end_ok (b:Nat) (a:Option Addr) (c:Nat) (L:List Tk) (k:Int) (w0:World) (L0:List Eng.Claim) (w:World) (S0:Sep w0 (box b [.slice a L.length c,.int .i64 k,.int .i64 0,.int .i64 0,.int .i64 0] 66::aa tkE a c 91 4 L::L0) w) (hk:0≤k∧k≤(L.length:Int)) (hL:1≤L.length∧L.length≤1000000):Ret prog 27 #[.pointer (some ⟨b,0,none⟩)] w (fun v w'=>∃ e' a' l' c',v=.tuple #[]∧Rz (edZ L (.ok k)) e' a' l' c'∧(0≤a'∧a'≤(L.length:Int))∧Sep w0 (box b [.slice a L.length c,.int .i64 a',.int .i64 l',.int .i64 c',.int .i64 e'] 66::aa tkE a c 91 4 L::L0) w'):=by
 refine Ret.st (N:=31) func27 fun R hR _=>J.r 1 [] [] []<|J.drawStill S0 17 Tryz.mixed kr kr kr ?_
 intro w1 S1
 refine SL.r 2 (.pointer (some ⟨b,0,none⟩))<|SL.r 3 (.pointer (some ⟨b,0,none⟩))<|SL.r 4 (.pointer (some ⟨b,4,none⟩))<|SL.lb S1 0 rfl 5 (.int .i64 0)<|SL.r 6 (.bool true)<|SL.r 7 (.bool true)<|SL.r 8 (.pointer (some ⟨b,0,none⟩))<|SL.r 9 (.pointer (some ⟨b,0,none⟩))<|SL.r 10 (.pointer (some ⟨b,1,none⟩))<|SL.lb S1 0 rfl 11 (.int .i64 k)<|SL.r 12 (.pointer (some ⟨b,0,none⟩)) ?_
 refine SL.r 13 (.pointer (some ⟨b,0,none⟩))<|SL.r 14 (.pointer (some ⟨b,0,none⟩))<|SL.lb S1 0 rfl 15 (.slice a L.length c)<|SL.r 16 (.int .i64 (L.length:Int))<|SL.r 17 (.bool (decide (k<(L.length:Int))))<|SL.r 18 (.bool (decide (k<(L.length:Int))))<|SL.done<|TL.done kr<|J.c 0 [] [] [] 18 (k<(L.length:Int)) (fun fk1=>?_) fun fk1=>?_
 refine J.r 1 [true] [] [] ?_
 obtain ⟨p1,hp1,hc1⟩:=(aX (S1.nth 1 rfl) _ rfl (fun _=>rfl) dE).at tk0 (k).toNat om
 refine J.drawTail S1 11 Tryz.mixed kr kr ?_
 intro w2 S2
 refine SL.r 19 (.pointer (some ⟨b,0,none⟩))<|SL.r 20 (.pointer (some ⟨b,0,none⟩))<|SL.r 21 (.pointer (some ⟨b,0,none⟩))<|SL.r 22 (.pointer (some ⟨b,0,none⟩))<|SL.lb S2 0 rfl 23 (.slice a L.length c)<|SL.r 24 (.pointer (some ⟨b,0,none⟩))<|SL.r 25 (.pointer (some ⟨b,0,none⟩))<|SL.r 26 (.pointer (some ⟨b,1,none⟩))<|SL.lb S2 0 rfl 27 (.int .i64 k) ?_
 obtain ⟨p2,hp2,hc2⟩:=(aX (S2.nth 1 rfl) _ rfl (fun _=>rfl) dE).at tk0 (k).toNat om
 refine SL.ok dE (OK.index 28 63 4 a p2 L.length (k).toNat k (p2.add ((k).toNat*4)) kr kr hp2 om om rfl)<|SL.ok dE (OK.ldCells 29 91 (p2.add ((k).toNat*4)) [.int .i64 ((L.getD (k).toNat tk0).az),.string ((L.getD (k).toNat tk0).ag),.int .i64 ((L.getD (k).toNat tk0).ae),.int .i64 ((L.getD (k).toNat tk0).ac)] kr kr kr hc2)<|SL.done<|TL.callF 30 54 #[.pointer (some ⟨b,0,none⟩),.agg #[.int .i64 ((L.getD (k).toNat tk0).az),.string ((L.getD (k).toNat tk0).ag),.int .i64 ((L.getD (k).toNat tk0).ae),.int .i64 ((L.getD (k).toNat tk0).ac)],.int .i64 3] hb54 kr (bI b a L.length c k (L.getD (k).toNat tk0) 3 _ _ _ S2) ?_
 rintro _ w3 ⟨rfl,S3⟩
 replace S3:Sep w0 (box b [.slice a L.length c,.int .i64 k,.int .i64 ((L.getD (k).toNat tk0).ae),.int .i64 ((L.getD (k).toNat tk0).ac),.int .i64 3] 66::aa tkE a c 91 4 L::L0) w3:=S3
 clear S2
 refine TL.done kr<|J.e 0 [] func27 (hR _ _ ?_)
 exact⟨_,_,_,_,rfl,aP (ed_in fk1) (bp dE),⟨om,om⟩,S3⟩
 refine J.e 2 [] func27 (hR _ _ ?_)
 exact⟨_,_,_,_,rfl,aP (ed_not fk1) bB,⟨om,om⟩,S1⟩

theorem end_no (b:Nat) (a:Option Addr) (c:Nat) (L:List Tk) (k l cc e:Int) (w0:World) (L0:List Eng.Claim) (w:World) (S0:Sep w0 (box b [.slice a L.length c,.int .i64 k,.int .i64 l,.int .i64 cc,.int .i64 e] 66::aa tkE a c 91 4 L::L0) w) (hk:0≤k∧k≤(L.length:Int)) (he:e≠0):Ret prog 27 #[.pointer (some ⟨b,0,none⟩)] w (fun v w'=>∃ e' a' l' c',v=.tuple #[]∧Rz (.no e l cc) e' a' l' c'∧(0≤a'∧a'≤(L.length:Int))∧Sep w0 (box b [.slice a L.length c,.int .i64 a',.int .i64 l',.int .i64 c',.int .i64 e'] 66::aa tkE a c 91 4 L::L0) w'):=by
 refine Ret.st (N:=31) func27 fun R hR _=>J.r 1 [] [] [] ?_
 have fk1:¬ (e=0):=he
 refine J.drawStill S0 17 Tryz.mixed kr kr kr ?_
 intro w1 S1
 refine SL.r 2 (.pointer (some ⟨b,0,none⟩))<|SL.r 3 (.pointer (some ⟨b,0,none⟩))<|SL.r 4 (.pointer (some ⟨b,4,none⟩))<|SL.lb S1 0 rfl 5 (.int .i64 e)<|SL.r 6 (.bool (e==0))<|SL.head (.bool false) (congrArg Value.bool (beq_eq_false_iff_ne.2 fk1))<|SL.r 7 (.bool false)<|SL.p (some 8)<|SL.p (some 9)<|SL.p (some 10)<|SL.p (some 11) ?_
 refine SL.p (some 12)<|SL.p (some 13)<|SL.p (some 14)<|SL.p (some 15)<|SL.p (some 16)<|SL.p (some 17)<|SL.r 18 (.bool false)<|SL.done<|TL.done kr<|J.e 2 [] func27 (hR _ _ ?_)
 exact⟨_,_,_,_,rfl,rz_no he,hk,S1⟩

theorem end_any (b:Nat) (a:Option Addr) (c:Nat) (L:List Tk) (X:Pz) (e k l cc:Int) (w0:World) (L0:List Eng.Claim) (w:World) (S0:Sep w0 (box b [.slice a L.length c,.int .i64 k,.int .i64 l,.int .i64 cc,.int .i64 e] 66::aa tkE a c 91 4 L::L0) w) (hz:Rz X e k l cc) (hk:0≤k∧k≤(L.length:Int)) (hL:1≤L.length∧L.length≤1000000):Ret prog 27 #[.pointer (some ⟨b,0,none⟩)] w (fun v w'=>∃ e' a' l' c',v=.tuple #[]∧Rz (edZ L X) e' a' l' c'∧(0≤a'∧a'≤(L.length:Int))∧Sep w0 (box b [.slice a L.length c,.int .i64 a',.int .i64 l',.int .i64 c',.int .i64 e'] 66::aa tkE a c 91 4 L::L0) w'):=by
  cases X with
  | ok j=>obtain ⟨h1,h2,h3,h4⟩:=hz;subst h1 h2 h3 h4;exact end_ok b a c L k w0 L0 w S0 hk hL
  | no x y z=>obtain ⟨h1,h2,h3,h4⟩:=hz;subst h1 h3 h4;exact end_no b a c L k l cc e w0 L0 w S0 hk h2
theorem hb25:aJ prog 25:=fun _ _=>by kernel_rfl

theorem more_yes (b:Nat) (a:Option Addr) (c:Nat) (L:List Tk) (k:Int) (s:ByteArray) (w0:World) (L0:List Eng.Claim) (w:World) (S0:Sep w0 (box b [.slice a L.length c,.int .i64 k,.int .i64 0,.int .i64 0,.int .i64 0] 66::aa tkE a c 91 4 L::L0) w) (hk:0≤k∧k≤(L.length:Int)) (hL:1≤L.length∧L.length≤1000000) (hm:mrB L s (.ok k)=true):Ret prog 25 #[.pointer (some ⟨b,0,none⟩),.string s] w (fun v w'=>v=.bool true∧Sep w0 (box b [.slice a L.length c,.int .i64 (k+1),.int .i64 0,.int .i64 0,.int .i64 0] 66::aa tkE a c 91 4 L::L0) w'):=by
 refine Ret.st (N:=44) func25 fun R hR _=>?_
 have hm1:=(bo hm).1
 refine J.r 6 [] [] [] ?_
 have fk1:¬ (k=(L.length:Int)):=by omega
 obtain ⟨p1,hp1,hc1⟩:=(aX (S0.nth 1 rfl) _ rfl (fun _=>rfl) dE).at tk0 (k).toNat om
 refine J.drawStill S0 32 Tryz.mixed kr kr kr ?_
 intro w1 S1
 refine SL.r 5 (.pointer (some ⟨b,0,none⟩))<|SL.r 6 (.pointer (some ⟨b,0,none⟩))<|SL.r 7 (.pointer (some ⟨b,4,none⟩))<|SL.lb S1 0 rfl 8 (.int .i64 0)<|SL.r 9 (.bool false)<|SL.r 10 (.bool false)<|SL.r 11 (.pointer (some ⟨b,0,none⟩))<|SL.r 12 (.pointer (some ⟨b,0,none⟩))<|SL.r 13 (.pointer (some ⟨b,1,none⟩))<|SL.lb S1 0 rfl 14 (.int .i64 k)<|SL.r 15 (.pointer (some ⟨b,0,none⟩)) ?_
 refine SL.r 16 (.pointer (some ⟨b,0,none⟩))<|SL.r 17 (.pointer (some ⟨b,0,none⟩))<|SL.lb S1 0 rfl 18 (.slice a L.length c)<|SL.r 19 (.int .i64 (L.length:Int))<|SL.r 20 (.bool (k==(L.length:Int)))<|SL.head (.bool false) (congrArg Value.bool (beq_eq_false_iff_ne.2 fk1))<|SL.r 21 (.bool false)<|SL.r 22 (.bool false)<|SL.r 23 (.pointer (some ⟨b,0,none⟩))<|SL.r 24 (.pointer (some ⟨b,0,none⟩))<|SL.r 25 (.pointer (some ⟨b,0,none⟩)) ?_
 refine SL.lb S1 0 rfl 26 (.slice a L.length c)<|SL.r 27 (.pointer (some ⟨b,0,none⟩))<|SL.r 28 (.pointer (some ⟨b,0,none⟩))<|SL.r 29 (.pointer (some ⟨b,1,none⟩))<|SL.lb S1 0 rfl 30 (.int .i64 k) ?_
 obtain ⟨p2,hp2,hc2⟩:=(aX (S1.nth 1 rfl) _ rfl (fun _=>rfl) dE).at tk0 (k).toNat om
 refine SL.ok dE (OK.index 31 63 4 a p2 L.length (k).toNat k (p2.add ((k).toNat*4)) kr kr hp2 om om rfl)<|SL.r 32 (.pointer (some ((p2.add ((k).toNat*4)).add 1)))<|SL.ok dE (OK.ldCell 33 9 ((p2.add ((k).toNat*4)).add 1) (.string ((L.getD (k).toNat tk0).ag)) kr kr (hc2 1 _ rfl))<|SL.r 34 (.string s)<|SL.r 35 (.bool (!(((L.getD (k).toNat tk0).ag).toList==s.toList)))<|SL.r 36 (.bool (!(((L.getD (k).toNat tk0).ag).toList==s.toList)))<|SL.done<|TL.done kr<|J.b 0 [] [] [] 36 (!(((L.getD (k).toNat tk0).ag).toList==s.toList)) (fun fk2=>?_) fun fk2=>?_
 refine J.e 5 [.bool false] func25 (hR _ _ ?_)
 exact absurd (bo hm).2 (by rw[show eqT (tx L k) s=false from nbT fk2];decide)
 refine J.lb 7 [false] [(37,.pointer (some ⟨b,0,none⟩))] [] S1 0 rfl 40 (.int .i64 k)<|J.wi 1 [] [] [] 41 (k+1)<|J.sb 2 [] [] [] S1 0 rfl [.slice a L.length c,.int .i64 (k+1),.int .i64 0,.int .i64 0,.int .i64 0] rfl fun w2 S2=>J.e 5 [.bool true] func25 (hR _ _ ?_)
 exact⟨rfl,S2⟩

theorem more_not (b:Nat) (a:Option Addr) (c:Nat) (L:List Tk) (k:Int) (s:ByteArray) (w0:World) (L0:List Eng.Claim) (w:World) (S0:Sep w0 (box b [.slice a L.length c,.int .i64 k,.int .i64 0,.int .i64 0,.int .i64 0] 66::aa tkE a c 91 4 L::L0) w) (hk:0≤k∧k≤(L.length:Int)) (hL:1≤L.length∧L.length≤1000000) (hm:mrB L s (.ok k)=false):Ret prog 25 #[.pointer (some ⟨b,0,none⟩),.string s] w (fun v w'=>v=.bool false∧Sep w0 (box b [.slice a L.length c,.int .i64 k,.int .i64 0,.int .i64 0,.int .i64 0] 66::aa tkE a c 91 4 L::L0) w'):=by
 refine Ret.st (N:=44) func25 fun R hR _=>J.r 6 [] [] [] ?_
 by_cases fk1:k=(L.length:Int)
 refine J.drawStill S0 32 Tryz.mixed kr kr kr ?_
 intro w1 S1
 refine SL.r 5 (.pointer (some ⟨b,0,none⟩))<|SL.r 6 (.pointer (some ⟨b,0,none⟩))<|SL.r 7 (.pointer (some ⟨b,4,none⟩))<|SL.lb S1 0 rfl 8 (.int .i64 0)<|SL.r 9 (.bool false)<|SL.r 10 (.bool false)<|SL.r 11 (.pointer (some ⟨b,0,none⟩))<|SL.r 12 (.pointer (some ⟨b,0,none⟩))<|SL.r 13 (.pointer (some ⟨b,1,none⟩))<|SL.lb S1 0 rfl 14 (.int .i64 k)<|SL.r 15 (.pointer (some ⟨b,0,none⟩)) ?_
 refine SL.r 16 (.pointer (some ⟨b,0,none⟩))<|SL.r 17 (.pointer (some ⟨b,0,none⟩))<|SL.lb S1 0 rfl 18 (.slice a L.length c)<|SL.r 19 (.int .i64 (L.length:Int))<|SL.r 20 (.bool (k==(L.length:Int)))<|SL.head (.bool true) (congrArg Value.bool (beq_iff_eq.2 fk1))<|SL.r 21 (.bool true)<|SL.r 22 (.bool true)<|SL.p (some 23)<|SL.p (some 24)<|SL.p (some 25) ?_
 refine SL.p (some 26)<|SL.p (some 27)<|SL.p (some 28)<|SL.p (some 29)<|SL.p (some 30)<|SL.p (some 31)<|SL.p (some 32)<|SL.p (some 33)<|SL.p (some 34)<|SL.p (some 35)<|SL.r 36 (.bool true) ?_
 refine SL.done<|TL.done kr<|J.e 5 [.bool false] func25 (hR _ _ ?_)
 exact⟨rfl,S1⟩
 obtain ⟨p1,hp1,hc1⟩:=(aX (S0.nth 1 rfl) _ rfl (fun _=>rfl) dE).at tk0 (k).toNat om
 refine J.drawStill S0 32 Tryz.mixed kr kr kr ?_
 intro w2 S2
 refine SL.r 5 (.pointer (some ⟨b,0,none⟩))<|SL.r 6 (.pointer (some ⟨b,0,none⟩))<|SL.r 7 (.pointer (some ⟨b,4,none⟩))<|SL.lb S2 0 rfl 8 (.int .i64 0)<|SL.r 9 (.bool false)<|SL.r 10 (.bool false)<|SL.r 11 (.pointer (some ⟨b,0,none⟩))<|SL.r 12 (.pointer (some ⟨b,0,none⟩))<|SL.r 13 (.pointer (some ⟨b,1,none⟩))<|SL.lb S2 0 rfl 14 (.int .i64 k)<|SL.r 15 (.pointer (some ⟨b,0,none⟩)) ?_
 refine SL.r 16 (.pointer (some ⟨b,0,none⟩))<|SL.r 17 (.pointer (some ⟨b,0,none⟩))<|SL.lb S2 0 rfl 18 (.slice a L.length c)<|SL.r 19 (.int .i64 (L.length:Int))<|SL.r 20 (.bool (k==(L.length:Int)))<|SL.head (.bool false) (congrArg Value.bool (beq_eq_false_iff_ne.2 fk1))<|SL.r 21 (.bool false)<|SL.r 22 (.bool false)<|SL.r 23 (.pointer (some ⟨b,0,none⟩))<|SL.r 24 (.pointer (some ⟨b,0,none⟩))<|SL.r 25 (.pointer (some ⟨b,0,none⟩)) ?_
 refine SL.lb S2 0 rfl 26 (.slice a L.length c)<|SL.r 27 (.pointer (some ⟨b,0,none⟩))<|SL.r 28 (.pointer (some ⟨b,0,none⟩))<|SL.r 29 (.pointer (some ⟨b,1,none⟩))<|SL.lb S2 0 rfl 30 (.int .i64 k) ?_
 obtain ⟨p2,hp2,hc2⟩:=(aX (S2.nth 1 rfl) _ rfl (fun _=>rfl) dE).at tk0 (k).toNat om
 refine SL.ok dE (OK.index 31 63 4 a p2 L.length (k).toNat k (p2.add ((k).toNat*4)) kr kr hp2 om om rfl)<|SL.r 32 (.pointer (some ((p2.add ((k).toNat*4)).add 1)))<|SL.ok dE (OK.ldCell 33 9 ((p2.add ((k).toNat*4)).add 1) (.string ((L.getD (k).toNat tk0).ag)) kr kr (hc2 1 _ rfl))<|SL.r 34 (.string s)<|SL.r 35 (.bool (!(((L.getD (k).toNat tk0).ag).toList==s.toList)))<|SL.r 36 (.bool (!(((L.getD (k).toNat tk0).ag).toList==s.toList)))<|SL.done<|TL.done kr<|J.b 0 [] [] [] 36 (!(((L.getD (k).toNat tk0).ag).toList==s.toList)) (fun fk2=>?_) fun fk2=>?_
 refine J.e 5 [.bool false] func25 (hR _ _ ?_)
 exact⟨rfl,S2⟩
 refine J.lb 7 [false] [(37,.pointer (some ⟨b,0,none⟩))] [] S2 0 rfl 40 (.int .i64 k)<|J.wi 1 [] [] [] 41 (k+1)<|J.sb 2 [] [] [] S2 0 rfl [.slice a L.length c,.int .i64 (k+1),.int .i64 0,.int .i64 0,.int .i64 0] rfl fun w3 S3=>J.e 5 [.bool true] func25 (hR _ _ ?_)
 rw[bd om (nbF fk2)] at hm;cases hm

theorem more_no (b:Nat) (a:Option Addr) (c:Nat) (L:List Tk) (k l cc e:Int) (s:ByteArray) (w0:World) (L0:List Eng.Claim) (w:World) (S0:Sep w0 (box b [.slice a L.length c,.int .i64 k,.int .i64 l,.int .i64 cc,.int .i64 e] 66::aa tkE a c 91 4 L::L0) w) (he:e≠0):Ret prog 25 #[.pointer (some ⟨b,0,none⟩),.string s] w (fun v w'=>v=.bool false∧Sep w0 (box b [.slice a L.length c,.int .i64 k,.int .i64 l,.int .i64 cc,.int .i64 e] 66::aa tkE a c 91 4 L::L0) w'):=by
 refine Ret.st (N:=44) func25 fun R hR _=>J.r 6 [] [] [] ?_
 have fk1:¬ (e=0):=he
 refine J.drawStill S0 32 Tryz.mixed kr kr kr ?_
 intro w1 S1
 refine SL.r 5 (.pointer (some ⟨b,0,none⟩))<|SL.r 6 (.pointer (some ⟨b,0,none⟩))<|SL.r 7 (.pointer (some ⟨b,4,none⟩))<|SL.lb S1 0 rfl 8 (.int .i64 e)<|SL.r 9 (.bool (e != 0))<|SL.head (.bool true) (congrArg Value.bool (bne_iff_ne.2 fk1))<|SL.r 10 (.bool true)<|SL.p (some 11)<|SL.p (some 12)<|SL.p (some 13)<|SL.p (some 14) ?_
 refine SL.p (some 15)<|SL.p (some 16)<|SL.p (some 17)<|SL.p (some 18)<|SL.p (some 19)<|SL.p (some 20)<|SL.r 21 (.bool true)<|SL.r 22 (.bool true)<|SL.p (some 23)<|SL.p (some 24)<|SL.p (some 25) ?_
 refine SL.p (some 26)<|SL.p (some 27)<|SL.p (some 28)<|SL.p (some 29)<|SL.p (some 30)<|SL.p (some 31)<|SL.p (some 32)<|SL.p (some 33)<|SL.p (some 34)<|SL.p (some 35)<|SL.r 36 (.bool true) ?_
 refine SL.done<|TL.done kr<|J.e 5 [.bool false] func25 (hR _ _ ?_)
 exact⟨rfl,S1⟩

theorem more_any (b:Nat) (a:Option Addr) (c:Nat) (L:List Tk) (X:Pz) (e k l cc:Int) (s:ByteArray) (w0:World) (L0:List Eng.Claim) (w:World) (S0:Sep w0 (box b [.slice a L.length c,.int .i64 k,.int .i64 l,.int .i64 cc,.int .i64 e] 66::aa tkE a c 91 4 L::L0) w) (hz:Rz X e k l cc) (hk:0≤k∧k≤(L.length:Int)) (hL:1≤L.length∧L.length≤1000000):Ret prog 25 #[.pointer (some ⟨b,0,none⟩),.string s] w (fun v w'=>∃ e' a' l' c',v=.bool (mrB L s X)∧Rz (mrZ L s X) e' a' l' c'∧(0≤a'∧a'≤(L.length:Int))∧Sep w0 (box b [.slice a L.length c,.int .i64 a',.int .i64 l',.int .i64 c',.int .i64 e'] 66::aa tkE a c 91 4 L::L0) w'):=by
  cases X with
  | ok j =>
    obtain ⟨h1,h2,h3,h4⟩:=hz;subst h1 h2 h3 h4
    cases hm:mrB L s (.ok k) with
    | true=>exact(more_yes b a c L k s w0 L0 w S0 hk hL hm).mono fun v w' ⟨hv,S⟩=>⟨_,_,_,_,hv,aP (mz_yes hm) bB,by have:=(bo hm).1;omega,S⟩
    | false=>exact(more_not b a c L k s w0 L0 w S0 hk hL hm).mono fun v w' ⟨hv,S⟩=>⟨_,_,_,_,hv,aP (mz_not hm) bB,hk,S⟩
  | no x y z =>
    obtain ⟨h1,h2,h3,h4⟩:=hz;subst h1 h3 h4
    exact(more_no b a c L k l cc e s w0 L0 w S0 h2).mono fun v w' ⟨hv,S⟩=>⟨_,_,_,_,hv,rz_no h2,hk,S⟩
theorem cu (q:ByteArray→Bool) (l:List ByteArray): -1≤ap q l∧ap q l<(l.length:Int):=by
  unfold ap
  cases h:l.findIdx? q with
  | none=>exact⟨Int.le_refl _,by show(-1:Int)<_;omega⟩
  | some i=>rw[List.findIdx?_eq_some_iff_getElem] at h;obtain ⟨hi,_⟩:=h;exact⟨by show(-1:Int)≤(i:Int);omega,by show(i:Int)<_;omega⟩
theorem hb26:aJ prog 26:=fun _ _=>by kernel_rfl

theorem elem_ok (b:Nat) (a:Option Addr) (c:Nat) (L:List Tk) (k:Int) (ea:Option Addr) (ec:Nat) (ls_:List ByteArray) (w0:World) (L0:List Eng.Claim) (w:World) (S0:Sep w0 (box b [.slice a L.length c,.int .i64 k,.int .i64 0,.int .i64 0,.int .i64 0] 66::aa tkE a c 91 4 L::aa (ah Value.string) ea ec 9 1 ls_::L0) w) (hk:0≤k∧k≤(L.length:Int)) (hL:1≤L.length∧L.length≤1000000) (hen:ls_.length≤1000000) (htk:∀ j,j<L.length→1≤(L.getD j tk0).ag.size∧(L.getD j tk0).ag.size≤1000000):Ret prog 26 #[.pointer (some ⟨b,0,none⟩),.slice ea ls_.length ec] w (fun v w'=>∃ e' a' l' c' x,v=.int .i64 x∧Rz (elZ L ls_ (.ok k)) e' a' l' c'∧(0≤a'∧a'≤(L.length:Int))∧(0≤x∧x≤(ls_.length:Int))∧(isZ (elZ L ls_ (.ok k))=true→x=elV L ls_ (.ok k))∧Sep w0 (box b [.slice a L.length c,.int .i64 a',.int .i64 l',.int .i64 c',.int .i64 e'] 66::aa tkE a c 91 4 L::aa (ah Value.string) ea ec 9 1 ls_::L0) w'):=by
 refine Ret.st (N:=26) func26 fun R hR _=>J.r 7 [] [(9,.pointer (some ⟨b,0,none⟩))] [] ?_
 by_cases fk1:k<(L.length:Int)
 rcases Bool.eq_false_or_eq_true (aV (L.getD (k).toNat tk0).ag) with fk2 | fk2
 refine J.callF 10 55 #[.pointer (some ⟨b,0,none⟩)] hb55 kr (rname_in b a c L k _ _ _ S0 om hL htk fk1 fk2) ?_
 rintro _ w1 ⟨rfl,S1⟩
 replace S1:Sep w0 (box b [.slice a L.length c,.int .i64 (k+1),.int .i64 0,.int .i64 0,.int .i64 0] 66::aa tkE a c 91 4 L::aa (ah Value.string) ea ec 9 1 ls_::L0) w1:=S1
 refine J.nw 3 [] [(12,.bool true),(11,.agg #[.int .i64 ((L.getD (k).toNat tk0).az),.string ((L.getD (k).toNat tk0).ag),.int .i64 ((L.getD (k).toNat tk0).ae),.int .i64 ((L.getD (k).toNat tk0).ac)])] [] S1 5 kvR8_1 91 fun b1 w2 S2=>J.sb 0 [] [] [] S2 0 rfl [.int .i64 ((L.getD (k).toNat tk0).az),.string ((L.getD (k).toNat tk0).ag),.int .i64 ((L.getD (k).toNat tk0).ae),.int .i64 ((L.getD (k).toNat tk0).ac)] rfl fun w3 S3=>J.lb 14 [false] [(15,.slice ea ls_.length ec)] [] S3 0 rfl 17 (.string ((L.getD (k).toNat tk0).ag)) ?_
 have:=aQ (S3.nth 3 rfl)
 refine J.c0 0 [] [] [] S3 18 hb57 (indexS ea ls_.length ec ls_ ((L.getD (k).toNat tk0).ag) _ ((aR (S3.nth 3 rfl) ls_.length rO)) oz) fun w4 S4=>?_
 have hix:=cu (eqT (L.getD (k).toNat tk0).ag) ls_
 refine J.c 8 [] [(7,.int .i64 (ap (eqT ((L.getD (k).toNat tk0).ag)) ls_))] [] 20 ((ap (eqT ((L.getD (k).toNat tk0).ag)) ls_)<0) (fun fk3=>?_) fun fk3=>?_
 refine J.lb 3 [true] [(21,.pointer (some ⟨b,0,none⟩))] [] S4 0 rfl 22 (.agg #[.int .i64 ((L.getD (k).toNat tk0).az),.string ((L.getD (k).toNat tk0).ag),.int .i64 ((L.getD (k).toNat tk0).ae),.int .i64 ((L.getD (k).toNat tk0).ac)]) ?_
 have S5:Sep w0 (box b [.slice a L.length c,.int .i64 (k+1),.int .i64 0,.int .i64 0,.int .i64 0] 66::box b1 [.int .i64 ((L.getD (k).toNat tk0).az),.string ((L.getD (k).toNat tk0).ag),.int .i64 ((L.getD (k).toNat tk0).ae),.int .i64 ((L.getD (k).toNat tk0).ac)] 91::aa tkE a c 91 4 L::aa (ah Value.string) ea ec 9 1 ls_::L0) w4:=S4.front 1 rfl
 refine J.callF 23 54 #[.pointer (some ⟨b,0,none⟩),.agg #[.int .i64 ((L.getD (k).toNat tk0).az),.string ((L.getD (k).toNat tk0).ag),.int .i64 ((L.getD (k).toNat tk0).ae),.int .i64 ((L.getD (k).toNat tk0).ac)],.int .i64 7] hb54 kr (bI b a L.length c (k+1) (L.getD (k).toNat tk0) 7 _ _ _ S5) ?_
 rintro _ w5 ⟨rfl,S6⟩
 replace S6:Sep w0 (box b [.slice a L.length c,.int .i64 (k+1),.int .i64 ((L.getD (k).toNat tk0).ae),.int .i64 ((L.getD (k).toNat tk0).ac),.int .i64 7] 66::box b1 [.int .i64 ((L.getD (k).toNat tk0).az),.string ((L.getD (k).toNat tk0).ag),.int .i64 ((L.getD (k).toNat tk0).ae),.int .i64 ((L.getD (k).toNat tk0).ac)] 91::aa tkE a c 91 4 L::aa (ah Value.string) ea ec 9 1 ls_::L0) w5:=S6
 refine J.h 5 [] [] [] 25 (.int .i64 (if 0>(ap (eqT ((L.getD (k).toNat tk0).ag)) ls_) then 0 else (ap (eqT ((L.getD (k).toNat tk0).ag)) ls_))) (.int .i64 (max (ap (eqT ((L.getD (k).toNat tk0).ag)) ls_) 0)) (congrArg (Value.int .i64) om)<|J.e 2 [.int .i64 (max (ap (eqT ((L.getD (k).toNat tk0).ag)) ls_) 0)] func26 (hR _ _ ?_)
 have hq_:=el_none (l:=ls_) fk1 fk2 fk3
 exact⟨_,_,_,_,_,rfl,aP hq_ (bp dE),⟨om,om⟩,⟨om,om⟩,(fun hi_=>(by rw[hq_] at hi_;cases hi_)),(S6.erase 1)⟩
 refine J.h 6 [false] [] [] 25 (.int .i64 (if 0>(ap (eqT ((L.getD (k).toNat tk0).ag)) ls_) then 0 else (ap (eqT ((L.getD (k).toNat tk0).ag)) ls_))) (.int .i64 (max (ap (eqT ((L.getD (k).toNat tk0).ag)) ls_) 0)) (congrArg (Value.int .i64) om)<|J.e 2 [.int .i64 (max (ap (eqT ((L.getD (k).toNat tk0).ag)) ls_) 0)] func26 (hR _ _ ?_)
 have hq_:=el_in (l:=ls_) fk1 fk2 fk3
 exact⟨_,_,_,_,_,rfl,aP hq_ (bB),⟨om,om⟩,⟨om,om⟩,(fun hi_=>rfl),(S4.erase 0)⟩
 refine J.callF 10 55 #[.pointer (some ⟨b,0,none⟩)] hb55 kr (rname_miss b a c L k _ _ _ S0 om hL htk fk1 fk2) ?_
 rintro _ w6 ⟨rfl,S7⟩
 replace S7:Sep w0 (box b [.slice a L.length c,.int .i64 (k+1),.int .i64 (lnA L k),.int .i64 (clA L k),.int .i64 3] 66::aa tkE a c 91 4 L::aa (ah Value.string) ea ec 9 1 ls_::L0) w6:=S7
 refine J.nw 3 [] [(12,.bool false),(11,.agg #[.int .i64 ((L.getD (k).toNat tk0).az),.string ((L.getD (k).toNat tk0).ag),.int .i64 ((L.getD (k).toNat tk0).ae),.int .i64 ((L.getD (k).toNat tk0).ac)])] [] S7 5 kvR8_1 91 fun b2 w7 S8=>J.sb 0 [] [] [] S8 0 rfl [.int .i64 ((L.getD (k).toNat tk0).az),.string ((L.getD (k).toNat tk0).ag),.int .i64 ((L.getD (k).toNat tk0).ae),.int .i64 ((L.getD (k).toNat tk0).ac)] rfl fun w8 S9=>J.e 13 [.int .i64 0] func26 (hR _ _ ?_)
 have hq_:=el_miss (l:=ls_) fk1 fk2
 exact⟨_,_,_,_,_,rfl,aP hq_ (bp dE),⟨om,om⟩,⟨om,om⟩,(fun hi_=>(by rw[hq_] at hi_;cases hi_)),(S9.erase 0)⟩
 refine J.callF 10 55 #[.pointer (some ⟨b,0,none⟩)] hb55 kr (rname_end b a c L k _ _ _ S0 om hL fk1) ?_
 rintro _ w9 ⟨rfl,S10⟩
 replace S10:Sep w0 (box b [.slice a L.length c,.int .i64 k,.int .i64 (lnA L ((L.length:Int)-1)),.int .i64 (clA L ((L.length:Int)-1)),.int .i64 4] 66::aa tkE a c 91 4 L::aa (ah Value.string) ea ec 9 1 ls_::L0) w9:=S10
 refine J.nw 3 [] [(12,.bool false),(11,.agg #[.int .i64 0,.string ByteArray.empty,.int .i64 0,.int .i64 0])] [] S10 5 kvR8_1 91 fun b3 w10 S11=>J.sb 0 [] [] [] S11 0 rfl kvR8_1 rfl fun w11 S12=>J.e 13 [.int .i64 0] func26 (hR _ _ ?_)
 have hq_:=el_end (l:=ls_) fk1
 exact⟨_,_,_,_,_,rfl,aP hq_ (rz_en rfl),⟨om,om⟩,⟨om,om⟩,(fun hi_=>(by rw[hq_] at hi_;cases hi_)),(S12.erase 0)⟩

theorem elem_no (b:Nat) (a:Option Addr) (c:Nat) (L:List Tk) (k l cc e:Int) (ea:Option Addr) (ec:Nat) (ls_:List ByteArray) (w0:World) (L0:List Eng.Claim) (w:World) (S0:Sep w0 (box b [.slice a L.length c,.int .i64 k,.int .i64 l,.int .i64 cc,.int .i64 e] 66::aa tkE a c 91 4 L::aa (ah Value.string) ea ec 9 1 ls_::L0) w) (hk:0≤k∧k≤(L.length:Int)) (he:e≠0) (hen:ls_.length≤1000000):Ret prog 26 #[.pointer (some ⟨b,0,none⟩),.slice ea ls_.length ec] w (fun v w'=>∃ e' a' l' c' x,v=.int .i64 x∧Rz (.no e l cc) e' a' l' c'∧(0≤a'∧a'≤(L.length:Int))∧(0≤x∧x≤(ls_.length:Int))∧(isZ (.no e l cc)=true→x=elV L ls_ (.no e l cc))∧Sep w0 (box b [.slice a L.length c,.int .i64 a',.int .i64 l',.int .i64 c',.int .i64 e'] 66::aa tkE a c 91 4 L::aa (ah Value.string) ea ec 9 1 ls_::L0) w'):=by
 refine Ret.st (N:=26) func26 fun R hR _=>J.r 7 [] [(9,.pointer (some ⟨b,0,none⟩))] []<|J.callF 10 55 #[.pointer (some ⟨b,0,none⟩)] hb55 kr (rname_no b a c L k l cc e _ _ _ S0 (by first | assumption | decide | omega)) ?_
 rintro _ w1 ⟨rfl,S1⟩
 replace S1:Sep w0 (box b [.slice a L.length c,.int .i64 k,.int .i64 l,.int .i64 cc,.int .i64 e] 66::aa tkE a c 91 4 L::aa (ah Value.string) ea ec 9 1 ls_::L0) w1:=S1
 refine J.nw 3 [] [(12,.bool false),(11,.agg #[.int .i64 0,.string ByteArray.empty,.int .i64 0,.int .i64 0])] [] S1 5 kvR8_1 91 fun b1 w2 S2=>J.sb 0 [] [] [] S2 0 rfl kvR8_1 rfl fun w3 S3=>J.e 13 [.int .i64 0] func26 (hR _ _ ?_)
 exact⟨_,_,_,_,_,rfl,rz_no he,hk,⟨om,om⟩,(fun h_=>by cases h_),(S3.erase 0)⟩

theorem elem_any (b:Nat) (a:Option Addr) (c:Nat) (L:List Tk) (X:Pz) (e k l cc:Int) (ea:Option Addr) (ec:Nat) (ls_:List ByteArray) (w0:World) (L0:List Eng.Claim) (w:World) (S0:Sep w0 (box b [.slice a L.length c,.int .i64 k,.int .i64 l,.int .i64 cc,.int .i64 e] 66::aa tkE a c 91 4 L::aa (ah Value.string) ea ec 9 1 ls_::L0) w) (hz:Rz X e k l cc) (hk:0≤k∧k≤(L.length:Int)) (hL:1≤L.length∧L.length≤1000000) (hen:ls_.length≤1000000) (htk:∀ j,j<L.length→1≤(L.getD j tk0).ag.size∧(L.getD j tk0).ag.size≤1000000):Ret prog 26 #[.pointer (some ⟨b,0,none⟩),.slice ea ls_.length ec] w (fun v w'=>∃ e' a' l' c' x,v=.int .i64 x∧Rz (elZ L ls_ (X)) e' a' l' c'∧(0≤a'∧a'≤(L.length:Int))∧(0≤x∧x≤(ls_.length:Int))∧(isZ (elZ L ls_ (X))=true→x=elV L ls_ (X))∧Sep w0 (box b [.slice a L.length c,.int .i64 a',.int .i64 l',.int .i64 c',.int .i64 e'] 66::aa tkE a c 91 4 L::aa (ah Value.string) ea ec 9 1 ls_::L0) w'):=by
  cases X with
  | ok j=>obtain ⟨h1,h2,h3,h4⟩:=hz;subst h1 h2 h3 h4;exact elem_ok b a c L k ea ec ls_ w0 L0 w S0 hk hL hen htk
  | no x y z=>obtain ⟨h1,h2,h3,h4⟩:=hz;subst h1 h3 h4;exact elem_no b a c L k l cc e ea ec ls_ w0 L0 w S0 hk h2 hen
end Go.Proofs.YtdneanhkcnfgdaaGreatDoor
