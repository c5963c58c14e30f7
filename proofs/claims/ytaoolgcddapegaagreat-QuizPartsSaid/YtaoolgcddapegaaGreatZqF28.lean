/- Walks of functions of this seat, printed by a program over the engine. Conditions: as each theorem says. -/
import Derived.Test.YtaoolgcddapegaaGreatZqF25
set_option linter.unusedSimpArgs false
set_option linter.unusedVariables false
namespace Go.Proofs.YtaoolgcddapegaaGreat
noncomputable section
open Go.Eng Go.RowKit Go.Proofs.Tryz
set_option maxRecDepth 20000
set_option maxHeartbeats 20000000
theorem hb64:af prog 64:=fun _ _=>by kernel_rfl
def K64_0:=adv 8 [] (cR (adv 6 [] (bi Tryz.f64)))
def K64_1:=List.drop 1 (adv 6 [] (cR (adv 8 [] (cR (adv 6 [] (bi Tryz.f64))))))
theorem lag_any (bm:Nat) (rs:List Int) (ra:Option Addr) (n rc:Nat) (cs:List Int) (i:Ins) (x:Int) (w0:World) (L0:List Eng.Claim) (w:World) (S0:Sep w0 (box bm (mxC rs [.slice ra n rc]) 44::ak aA ra rc 3 1 cs::L0) w) (hrs:rs.length=16) (hn:cs.length=n) (hi:insQ w0 i) (hk:0≤i.gK∧i.gK≤32767∧i.gK%32≤20∧i.gK/32+1<(n:Int)):Ret prog 64 #[pv bm,.agg (dP i),iv x] w (fun v w'=>v=iv (lgY i cs x)∧Sep w0 (box bm (mxC rs [.slice ra n rc]) 44::ak aA ra rc 3 1 (lgC i cs x)::L0) w'):=by
 refine Ret.st (N:=70) func64 fun R hR _=>?_
 obtain ⟨q1,q2,q3,q4,q5,_⟩:=id hi
 refine J.nw 2 [] [] [] S0 4 (aZ i) 64 fun b1 w1 S1=>J.r 3 [] [] []<|J.drawStill S1 8 Tryz.mixed kr kr kr ?_
 intro w2 S2
 refine SL.r 11 (.pointer (some ⟨b1,4,none⟩))<|SL.lb S2 0 rfl 12 (iv i.gK)<|SL.r 13 (iv (Int.fdiv i.gK (2^5)))<|SL.head (iv (i.gK/32)) (congrArg (Value.int .i64) (dl _ _ dE))<|SL.r 14 (.pointer (some ⟨b1,4,none⟩))<|SL.lb S2 0 rfl 15 (iv i.gK)<|SL.r 16 (iv (IntKind.wrap .i64 ((BitVec.ofInt 64 i.gK &&& (BitVec.ofInt 64 (31:Int))).toNat:Int)))<|SL.head (iv (i.gK%32)) (congrArg (Value.int .i64) (dB 5 _ _ rF dE))<|SL.r 7 (iv (i.gK/32))<|SL.r 8 (iv (i.gK%32))<|SL.done ?_
 refine TL.done kr<|J.h 4 [] [] [] 18 (iv (if (-1099511627776)>x then (-1099511627776) else x)) (iv (max x (-1099511627776))) (congrArg (Value.int .i64) om)<|J.h 1 [] [] [] 19 (iv (if 1099511627776<(max x (-1099511627776)) then 1099511627776 else (max x (-1099511627776)))) (iv (min (max x (-1099511627776)) 1099511627776)) (congrArg (Value.int .i64) om)<|J.r 3 [] [(2,iv (min (max x (-1099511627776)) 1099511627776))] [] ?_
 obtain ⟨p1,hp1⟩:=bK (S2.nth 2 rfl) (show 0<(cs).length by first | omega | (simp;omega))
 obtain ⟨p2,hp2⟩:=bK (S2.nth 2 rfl) (show 0<(cs).length by first | omega | (simp;omega))
 have W1:∀ (bd22:Nat) (w3:World),Sep w0 (box bd22 [iv (lagP (cs.getD (i.gK/32).toNat 0) (cs.getD ((i.gK/32)+1).toNat 0) (min (max x (-1099511627776)) 1099511627776) (i.gK%32)),iv (lagQ (cs.getD (i.gK/32).toNat 0) (cs.getD ((i.gK/32)+1).toNat 0) (min (max x (-1099511627776)) 1099511627776) (i.gK%32))] 114::box b1 (aZ i) 64::box bm (mxC rs [.slice ra n rc]) 44::ak aA ra rc 3 1 cs::L0) w3→WA prog 64 70 R K64_0 (fun w_=>Sep w0 (box b1 (aZ i) 64::box bm (mxC rs [.slice ra n rc]) 44::ak aA ra rc 3 1 cs::L0) w_) 0 #[true,true,true,true,true,true,true,true,true,true,true,true,true,true,true,true,true,true,true,true,true,true,true,true,true] [(0,pv bm),(2,iv (min (max x (-1099511627776)) 1099511627776)),(7,iv (i.gK/32)),(8,iv (i.gK%32)),(9,pv bd22),(10,iv (lagE (cs.getD (i.gK/32).toNat 0) (cs.getD ((i.gK/32)+1).toNat 0) (i.gK%32)))] w3:=by
  intro bd22 w3 S3
  refine WA.done kr ?_
  have X1:∀ (Y:Int) (Q:Int) (w4:World),(Y=lgY i cs x)→(Q=lgR i cs x)→Sep w0 (box bd22 [iv Y,iv Q] 114::box b1 (aZ i) 64::box bm (mxC rs [.slice ra n rc]) 44::ak aA ra rc 3 1 cs::L0) w4→J prog 64 70 R K64_1 [(0,pv bm),(7,iv (i.gK/32)),(9,pv bd22)] w4:=by
   intro Y Q w4 hY hQ S4
   refine J.r 1 [] [] []<|J.drawPlan (fun w_=>Sep w0 (box bd22 [iv Y,iv Q] 114::box b1 (aZ i) 64::box bm (mxC rs [.slice ra n rc]) 44::L0) w_) [(0,true),(1,true),(2,true),(3,true),(4,true),(5,true),(6,true),(7,true),(8,true),(9,true),(10,true),(11,true),(12,true),(13,true),(14,true),(15,true),(16,false),(17,true),(18,false)] S4 Tryz.mixed kr (aE (T:=[(0,some 51,1),(1,some 52,2251799813685248),(2,some 53,4503599627370496),(4,some 54,9007199254740992),(0,some 55,128),(0,some 56,1),(32,some 57,72057594037927936),(64,some 58,144115188075855872),(128,some 59,288230376151711744),(0,some 60,128),(512,some 61,1152921504606846976),(0,some 62,512),(2048,some 63,4611686018427387904),(0,some 64,512),(8192,some 65,18446744073709551616),(6431,some 66,54043195528445952),(39199,none,83010348331692982272),(131071,some 67,2882303761517117440),(262143,none,184467440737095516160)]) kr kr) ?_
   intro w5 S5
   refine PB.mk (S5.erase 3)<|PL.take 0 51 (pv bm) (fun _ _=>kr)<|PL.take 1 52 (pv bm) (fun _ _=>kr)<|PL.take 2 53 (.pointer (some ⟨bm,16,none⟩)) (fun _ _=>kr)<|PL.takeOK 3 (fun w_ S_=>OK.ldMt S_ 2 rfl 54 26 16 aS0) rfl<|PL.take 4 55 (iv (i.gK/32)) (fun _ _=>kr)<|PL.take 5 56 (pv bm) (fun _ _=>kr)<|PL.take 6 57 (pv bm) (fun _ _=>kr)<|PL.take 7 58 (.pointer (some ⟨bm,16,none⟩)) (fun _ _=>kr)<|PL.takeOK 8 (fun w_ S_=>OK.ldMt S_ 2 rfl 59 26 16 aS0) rfl<|PL.take 9 60 (iv (i.gK/32)) (fun _ _=>kr) ?_
   refine PL.take 10 61 (iv (IntKind.wrap .i64 ((i.gK/32)+1))) (fun _ _=>kr)<|PL.head (iv ((i.gK/32)+1)) (congrArg (Value.int .i64) (IntWalk.i64_in _ om))<|PL.take 11 62 (pv bd22) (fun _ _=>kr)<|PL.takeOK 12 (fun w_ S_=>OK.ldBox S_ 0 63 3 0 (iv Y) kr rfl kr) rfl<|PL.take 13 64 (.pointer (some ⟨bd22,1,none⟩)) (fun _ _=>kr)<|PL.takeOK 14 (fun w_ S_=>OK.ldBox S_ 0 65 3 1 (iv Q) kr rfl kr) rfl<|PL.takeOK 15 (fun w_ S_=>OK.index 66 26 1 ra p1 n (i.gK/32).toNat (i.gK/32) (p1.add (i.gK/32).toNat) kr kr hp1 om oz nO) rfl<|PL.stRow1 (Value.int .i64) (dO _) S5 3 cs 3 p1 (i.gK/32).toNat Y rfl kr hp1 oz kr ?_
   intro w6 S6
   replace S6:Sep w0 (box bd22 [iv Y,iv Q] 114::box b1 (aZ i) 64::box bm (mxC rs [.slice ra n rc]) 44::ak aA ra rc 3 1 (cs.set (i.gK/32).toNat Y)::L0) w6:=S6
   refine PB.mk (S6.erase 3)<|PL.takeOK 17 (fun w_ S_=>OK.index 67 26 1 ra p2 n ((i.gK/32)+1).toNat ((i.gK/32)+1) (p2.add ((i.gK/32)+1).toNat) kr kr hp2 om oz nO) rfl<|PL.stRow1 (Value.int .i64) (dO _) S6 3 (cs.set (i.gK/32).toNat Y) 3 p2 ((i.gK/32)+1).toNat Q rfl kr hp2 oz kr ?_
   intro w7 S7
   replace S7:Sep w0 (box bd22 [iv Y,iv Q] 114::box b1 (aZ i) 64::box bm (mxC rs [.slice ra n rc]) 44::ak aA ra rc 3 1 ((cs.set (i.gK/32).toNat Y).set ((i.gK/32)+1).toNat Q)::L0) w7:=S7
   refine PB.mk (S7.erase 3)<|PL.done<|J.lb 3 [] [] [] S7 0 rfl 69 (iv Y)<|J.e 2 [iv Y] func64 (hR _ _ ?_)
   exact⟨by rw[hY];rfl,by unfold lgC;rw[← hY,← hQ];exact((S7.erase 0).erase 0)⟩
  refine J.cn 6 [] [] [] 43 ((lagE (cs.getD (i.gK/32).toNat 0) (cs.getD ((i.gK/32)+1).toNat 0) (i.gK%32))=0) (fun fk1=>?_) fun fk1=>?_
  exact J.t 2 (X1 (lagP (cs.getD (i.gK/32).toNat 0) (cs.getD ((i.gK/32)+1).toNat 0) (min (max x (-1099511627776)) 1099511627776) (i.gK%32)) (lagQ (cs.getD (i.gK/32).toNat 0) (cs.getD ((i.gK/32)+1).toNat 0) (min (max x (-1099511627776)) 1099511627776) (i.gK%32)) w3 (by have hb:=lagE_iff.1 fk1;obtain ⟨e1,e2,e3⟩:=lag_yes (x:=lgX x) hb;unfold lgY;rw[show lgOK i cs=true from hb];exact e2) (by have hb:=lagE_iff.1 fk1;obtain ⟨e1,e2,e3⟩:=lag_yes (x:=lgX x) hb;unfold lgR;rw[show lgOK i cs=true from hb];exact e3) S3)
  exact J.c0 5 [true] [] [] S3 48 hb98 (flag_any 0 0 (min (max x (-1099511627776)) 1099511627776) (i.gK%32) _ om om) fun w8 S8=>J.sb 3 [] [] [] S8 0 rfl [iv (lagP 0 0 (min (max x (-1099511627776)) 1099511627776) (i.gK%32)),iv (lagQ 0 0 (min (max x (-1099511627776)) 1099511627776) (i.gK%32))] rfl fun w9 S9=>J.t 1 (X1 (lagP 0 0 (min (max x (-1099511627776)) 1099511627776) (i.gK%32)) (lagQ 0 0 (min (max x (-1099511627776)) 1099511627776) (i.gK%32)) w9 (by have hb:lgOK i cs=false:=(by cases h_:lgOK i cs with | false=>rfl | true=>exact absurd (lagE_iff.2 h_) fk1);obtain ⟨e1,e2,e3⟩:=lag_yes (x:=lgX x) (lagB_zero (i.gK%32));unfold lgY;rw[hb];exact e2) (by have hb:lgOK i cs=false:=(by cases h_:lgOK i cs with | false=>rfl | true=>exact absurd (lagE_iff.2 h_) fk1);obtain ⟨e1,e2,e3⟩:=lag_yes (x:=lgX x) (lagB_zero (i.gK%32));unfold lgR;rw[hb];exact e3) S9)
 have W2:∀ (bd22:Nat) (w10:World),Sep w0 (box bd22 [iv 0,iv 0] 114::box b1 (aZ i) 64::box bm (mxC rs [.slice ra n rc]) 44::ak aA ra rc 3 1 cs::L0) w10→WA prog 64 70 R K64_0 (fun w_=>Sep w0 (box b1 (aZ i) 64::box bm (mxC rs [.slice ra n rc]) 44::ak aA ra rc 3 1 cs::L0) w_) 2 #[true,true,true,true,true,true,true,true,true,true,true,true,true,true,true,true,true,true,true,true,true,true,true,false,false] [(0,pv bm),(2,iv (min (max x (-1099511627776)) 1099511627776)),(7,iv (i.gK/32)),(8,iv (i.gK%32)),(9,pv bd22),(40,.agg #[iv (lagP (cs.getD (i.gK/32).toNat 0) (cs.getD ((i.gK/32)+1).toNat 0) (min (max x (-1099511627776)) 1099511627776) (i.gK%32)),iv (lagQ (cs.getD (i.gK/32).toNat 0) (cs.getD ((i.gK/32)+1).toNat 0) (min (max x (-1099511627776)) 1099511627776) (i.gK%32))]),(41,iv (lagE (cs.getD (i.gK/32).toNat 0) (cs.getD ((i.gK/32)+1).toNat 0) (i.gK%32)))] w10:=by
  intro bd22 w10 S10
  refine WA.all [23] kr rfl ⟨?_,trivial⟩
  refine WO.set #[true,true,true,true,true,true,true,true,true,true,true,true,true,true,true,true,true,true,true,true,true,true,true,true,false] kr<|WO.stBox S10 0 114 0 (.agg #[iv (lagP (cs.getD (i.gK/32).toNat 0) (cs.getD ((i.gK/32)+1).toNat 0) (min (max x (-1099511627776)) 1099511627776) (i.gK%32)),iv (lagQ (cs.getD (i.gK/32).toNat 0) (cs.getD ((i.gK/32)+1).toNat 0) (min (max x (-1099511627776)) 1099511627776) (i.gK%32))]) [iv (lagP (cs.getD (i.gK/32).toNat 0) (cs.getD ((i.gK/32)+1).toNat 0) (min (max x (-1099511627776)) 1099511627776) (i.gK%32)),iv (lagQ (cs.getD (i.gK/32).toNat 0) (cs.getD ((i.gK/32)+1).toNat 0) (min (max x (-1099511627776)) 1099511627776) (i.gK%32))] (box bd22 [iv (lagP (cs.getD (i.gK/32).toNat 0) (cs.getD ((i.gK/32)+1).toNat 0) (min (max x (-1099511627776)) 1099511627776) (i.gK%32)),iv (lagQ (cs.getD (i.gK/32).toNat 0) (cs.getD ((i.gK/32)+1).toNat 0) (min (max x (-1099511627776)) 1099511627776) (i.gK%32))] 114::box b1 (aZ i) 64::box bm (mxC rs [.slice ra n rc]) 44::ak aA ra rc 3 1 cs::L0) kr rfl kr kr rfl ?_
  intro w11 S11
  exact WB.mk (S11.erase 0)<|WA.take 24 10 (iv (lagE (cs.getD (i.gK/32).toNat 0) (cs.getD ((i.gK/32)+1).toNat 0) (i.gK%32))) #[true,true,true,true,true,true,true,true,true,true,true,true,true,true,true,true,true,true,true,true,true,true,true,true,true] kr kr kr (fun _ _=>kr) kr<|WA.weaken (env':=[(0,pv bm),(2,iv (min (max x (-1099511627776)) 1099511627776)),(7,iv (i.gK/32)),(8,iv (i.gK%32)),(9,pv bd22),(10,iv (lagE (cs.getD (i.gK/32).toNat 0) (cs.getD ((i.gK/32)+1).toNat 0) (i.gK%32)))]) kr<|W1 bd22 w11 S11
 have W3:∀ (w12:World),Sep w0 (box b1 (aZ i) 64::box bm (mxC rs [.slice ra n rc]) 44::ak aA ra rc 3 1 cs::L0) w12→WA prog 64 70 R K64_0 (fun w_=>Sep w0 (box b1 (aZ i) 64::box bm (mxC rs [.slice ra n rc]) 44::ak aA ra rc 3 1 cs::L0) w_) 3 #[true,true,true,true,true,true,true,true,true,true,true,true,true,true,true,true,true,true,true,true,true,true,false,false,false] [(0,pv bm),(2,iv (min (max x (-1099511627776)) 1099511627776)),(7,iv (i.gK/32)),(8,iv (i.gK%32)),(40,.agg #[iv (lagP (cs.getD (i.gK/32).toNat 0) (cs.getD ((i.gK/32)+1).toNat 0) (min (max x (-1099511627776)) 1099511627776) (i.gK%32)),iv (lagQ (cs.getD (i.gK/32).toNat 0) (cs.getD ((i.gK/32)+1).toNat 0) (min (max x (-1099511627776)) 1099511627776) (i.gK%32))]),(41,iv (lagE (cs.getD (i.gK/32).toNat 0) (cs.getD ((i.gK/32)+1).toNat 0) (i.gK%32)))] w12:=by
  intro w12 S12
  refine WA.all [22] kr rfl ⟨?_,trivial⟩
  refine WO.set #[true,true,true,true,true,true,true,true,true,true,true,true,true,true,true,true,true,true,true,true,true,true,true,false,false] kr<|WO.new S12 9 [iv 0,iv 0] 114 kr ?_
  intro bd22 w13 S13
  exact WB.mk (S13.erase 0)<|WA.weaken (env':=[(0,pv bm),(2,iv (min (max x (-1099511627776)) 1099511627776)),(7,iv (i.gK/32)),(8,iv (i.gK%32)),(9,pv bd22),(40,.agg #[iv (lagP (cs.getD (i.gK/32).toNat 0) (cs.getD ((i.gK/32)+1).toNat 0) (min (max x (-1099511627776)) 1099511627776) (i.gK%32)),iv (lagQ (cs.getD (i.gK/32).toNat 0) (cs.getD ((i.gK/32)+1).toNat 0) (min (max x (-1099511627776)) 1099511627776) (i.gK%32))]),(41,iv (lagE (cs.getD (i.gK/32).toNat 0) (cs.getD ((i.gK/32)+1).toNat 0) (i.gK%32)))]) kr<|W2 bd22 w13 S13
 have W4:∀ (bd22:Nat) (w14:World),Sep w0 (box bd22 [iv 0,iv 0] 114::box b1 (aZ i) 64::box bm (mxC rs [.slice ra n rc]) 44::ak aA ra rc 3 1 cs::L0) w14→WA prog 64 70 R K64_0 (fun w_=>Sep w0 (box b1 (aZ i) 64::box bm (mxC rs [.slice ra n rc]) 44::ak aA ra rc 3 1 cs::L0) w_) 6 #[true,true,true,true,true,true,true,true,true,true,true,true,true,true,true,true,true,true,false,false,false,false,true,false,false] [(0,pv bm),(2,iv (min (max x (-1099511627776)) 1099511627776)),(7,iv (i.gK/32)),(8,iv (i.gK%32)),(9,pv bd22),(36,.agg #[iv (cs.getD (i.gK/32).toNat 0),iv (cs.getD ((i.gK/32)+1).toNat 0)]),(37,iv (min (max x (-1099511627776)) 1099511627776)),(38,iv (i.gK%32))] w14:=by
  intro bd22 w14 S14
  refine WA.all [18] kr rfl ⟨?_,trivial⟩
  refine WO.set #[true,true,true,true,true,true,true,true,true,true,true,true,true,true,true,true,true,true,true,false,false,false,true,false,false] kr<|WO.callF 39 98 #[.agg #[iv (cs.getD (i.gK/32).toNat 0),iv (cs.getD ((i.gK/32)+1).toNat 0)],iv (min (max x (-1099511627776)) 1099511627776),iv (i.gK%32)] hb98 kr (flag_any (cs.getD (i.gK/32).toNat 0) (cs.getD ((i.gK/32)+1).toNat 0) (min (max x (-1099511627776)) 1099511627776) (i.gK%32) _ om om) ?_
  rintro _ w15 ⟨rfl,T1⟩
  have S15:Sep w0 (box bd22 [iv 0,iv 0] 114::box b1 (aZ i) 64::box bm (mxC rs [.slice ra n rc]) 44::ak aA ra rc 3 1 cs::L0) w15:=S14.trans T1
  clear T1 S14
  exact WB.mk (S15.erase 0)<|WA.take 19 20 (.tuple #[.agg #[iv (lagP (cs.getD (i.gK/32).toNat 0) (cs.getD ((i.gK/32)+1).toNat 0) (min (max x (-1099511627776)) 1099511627776) (i.gK%32)),iv (lagQ (cs.getD (i.gK/32).toNat 0) (cs.getD ((i.gK/32)+1).toNat 0) (min (max x (-1099511627776)) 1099511627776) (i.gK%32))],iv (lagE (cs.getD (i.gK/32).toNat 0) (cs.getD ((i.gK/32)+1).toNat 0) (i.gK%32))]) #[true,true,true,true,true,true,true,true,true,true,true,true,true,true,true,true,true,true,true,true,false,false,true,false,false] kr kr kr (fun _ _=>kr) kr<|WA.take 20 40 (.agg #[iv (lagP (cs.getD (i.gK/32).toNat 0) (cs.getD ((i.gK/32)+1).toNat 0) (min (max x (-1099511627776)) 1099511627776) (i.gK%32)),iv (lagQ (cs.getD (i.gK/32).toNat 0) (cs.getD ((i.gK/32)+1).toNat 0) (min (max x (-1099511627776)) 1099511627776) (i.gK%32))]) #[true,true,true,true,true,true,true,true,true,true,true,true,true,true,true,true,true,true,true,true,true,false,true,false,false] kr kr kr (fun _ _=>kr) kr<|WA.take 21 41 (iv (lagE (cs.getD (i.gK/32).toNat 0) (cs.getD ((i.gK/32)+1).toNat 0) (i.gK%32))) #[true,true,true,true,true,true,true,true,true,true,true,true,true,true,true,true,true,true,true,true,true,true,true,false,false] kr kr kr (fun _ _=>kr) kr<|WA.weaken (env':=[(0,pv bm),(2,iv (min (max x (-1099511627776)) 1099511627776)),(7,iv (i.gK/32)),(8,iv (i.gK%32)),(9,pv bd22),(40,.agg #[iv (lagP (cs.getD (i.gK/32).toNat 0) (cs.getD ((i.gK/32)+1).toNat 0) (min (max x (-1099511627776)) 1099511627776) (i.gK%32)),iv (lagQ (cs.getD (i.gK/32).toNat 0) (cs.getD ((i.gK/32)+1).toNat 0) (min (max x (-1099511627776)) 1099511627776) (i.gK%32))]),(41,iv (lagE (cs.getD (i.gK/32).toNat 0) (cs.getD ((i.gK/32)+1).toNat 0) (i.gK%32)))]) kr<|W2 bd22 w15 S15
 have W5:∀ (w16:World),Sep w0 (box b1 (aZ i) 64::box bm (mxC rs [.slice ra n rc]) 44::ak aA ra rc 3 1 cs::L0) w16→WA prog 64 70 R K64_0 (fun w_=>Sep w0 (box b1 (aZ i) 64::box bm (mxC rs [.slice ra n rc]) 44::ak aA ra rc 3 1 cs::L0) w_) 7 #[true,true,true,true,true,true,true,true,true,true,true,true,true,true,true,true,true,true,false,false,false,false,false,false,false] [(0,pv bm),(2,iv (min (max x (-1099511627776)) 1099511627776)),(7,iv (i.gK/32)),(8,iv (i.gK%32)),(36,.agg #[iv (cs.getD (i.gK/32).toNat 0),iv (cs.getD ((i.gK/32)+1).toNat 0)]),(37,iv (min (max x (-1099511627776)) 1099511627776)),(38,iv (i.gK%32))] w16:=by
  intro w16 S16
  refine WA.all [18,22] kr rfl ⟨?_,?_,trivial⟩
  refine WO.set #[true,true,true,true,true,true,true,true,true,true,true,true,true,true,true,true,true,true,true,false,false,false,false,false,false] kr<|WO.callF 39 98 #[.agg #[iv (cs.getD (i.gK/32).toNat 0),iv (cs.getD ((i.gK/32)+1).toNat 0)],iv (min (max x (-1099511627776)) 1099511627776),iv (i.gK%32)] hb98 kr (flag_any (cs.getD (i.gK/32).toNat 0) (cs.getD ((i.gK/32)+1).toNat 0) (min (max x (-1099511627776)) 1099511627776) (i.gK%32) _ om om) ?_
  rintro _ w17 ⟨rfl,T2⟩
  have S17:Sep w0 (box b1 (aZ i) 64::box bm (mxC rs [.slice ra n rc]) 44::ak aA ra rc 3 1 cs::L0) w17:=S16.trans T2
  clear T2 S16
  exact WB.mk S17<|WA.take 19 20 (.tuple #[.agg #[iv (lagP (cs.getD (i.gK/32).toNat 0) (cs.getD ((i.gK/32)+1).toNat 0) (min (max x (-1099511627776)) 1099511627776) (i.gK%32)),iv (lagQ (cs.getD (i.gK/32).toNat 0) (cs.getD ((i.gK/32)+1).toNat 0) (min (max x (-1099511627776)) 1099511627776) (i.gK%32))],iv (lagE (cs.getD (i.gK/32).toNat 0) (cs.getD ((i.gK/32)+1).toNat 0) (i.gK%32))]) #[true,true,true,true,true,true,true,true,true,true,true,true,true,true,true,true,true,true,true,true,false,false,false,false,false] kr kr kr (fun _ _=>kr) kr<|WA.take 20 40 (.agg #[iv (lagP (cs.getD (i.gK/32).toNat 0) (cs.getD ((i.gK/32)+1).toNat 0) (min (max x (-1099511627776)) 1099511627776) (i.gK%32)),iv (lagQ (cs.getD (i.gK/32).toNat 0) (cs.getD ((i.gK/32)+1).toNat 0) (min (max x (-1099511627776)) 1099511627776) (i.gK%32))]) #[true,true,true,true,true,true,true,true,true,true,true,true,true,true,true,true,true,true,true,true,true,false,false,false,false] kr kr kr (fun _ _=>kr) kr<|WA.take 21 41 (iv (lagE (cs.getD (i.gK/32).toNat 0) (cs.getD ((i.gK/32)+1).toNat 0) (i.gK%32))) #[true,true,true,true,true,true,true,true,true,true,true,true,true,true,true,true,true,true,true,true,true,true,false,false,false] kr kr kr (fun _ _=>kr) kr<|WA.weaken (env':=[(0,pv bm),(2,iv (min (max x (-1099511627776)) 1099511627776)),(7,iv (i.gK/32)),(8,iv (i.gK%32)),(40,.agg #[iv (lagP (cs.getD (i.gK/32).toNat 0) (cs.getD ((i.gK/32)+1).toNat 0) (min (max x (-1099511627776)) 1099511627776) (i.gK%32)),iv (lagQ (cs.getD (i.gK/32).toNat 0) (cs.getD ((i.gK/32)+1).toNat 0) (min (max x (-1099511627776)) 1099511627776) (i.gK%32))]),(41,iv (lagE (cs.getD (i.gK/32).toNat 0) (cs.getD ((i.gK/32)+1).toNat 0) (i.gK%32)))]) kr<|W3 w17 S17
  refine WO.set #[true,true,true,true,true,true,true,true,true,true,true,true,true,true,true,true,true,true,false,false,false,false,true,false,false] kr<|WO.new S16 9 [iv 0,iv 0] 114 kr ?_
  intro bd22 w18 S18
  exact WB.mk (S18.erase 0)<|WA.weaken (env':=[(0,pv bm),(2,iv (min (max x (-1099511627776)) 1099511627776)),(7,iv (i.gK/32)),(8,iv (i.gK%32)),(9,pv bd22),(36,.agg #[iv (cs.getD (i.gK/32).toNat 0),iv (cs.getD ((i.gK/32)+1).toNat 0)]),(37,iv (min (max x (-1099511627776)) 1099511627776)),(38,iv (i.gK%32))]) kr<|W4 bd22 w18 S18
 refine J.drawAny (fun w_=>Sep w0 (box b1 (aZ i) 64::box bm (mxC rs [.slice ra n rc]) 44::ak aA ra rc 3 1 cs::L0) w_) S2 25 #[false,false,false,false,false,false,false,false,false,false,false,false,false,false,false,false,false,false,false,false,false,false,false,false,false] Tryz.mixed kr kr kr ?_
 intro w19 S19
 refine WB.mk S19<|WA.take 0 21 (pv bm) #[true,false,false,false,false,false,false,false,false,false,false,false,false,false,false,false,false,false,false,false,false,false,false,false,false] kr kr kr (fun _ _=>kr) kr<|WA.take 1 22 (pv bm) #[true,true,false,false,false,false,false,false,false,false,false,false,false,false,false,false,false,false,false,false,false,false,false,false,false] kr kr kr (fun _ _=>kr) kr<|WA.take 2 23 (.pointer (some ⟨bm,16,none⟩)) #[true,true,true,false,false,false,false,false,false,false,false,false,false,false,false,false,false,false,false,false,false,false,false,false,false] kr kr kr (fun _ _=>kr) kr<|WA.takeOK 3 #[true,true,true,true,false,false,false,false,false,false,false,false,false,false,false,false,false,false,false,false,false,false,false,false,false] kr kr kr kr (fun w_ S_=>OK.ldMt S_ 1 rfl 24 26 16 aS0) rfl<|WA.take 4 25 (iv (i.gK/32)) #[true,true,true,true,true,false,false,false,false,false,false,false,false,false,false,false,false,false,false,false,false,false,false,false,false] kr kr kr (fun _ _=>kr) kr<|WA.takeOK 5 #[true,true,true,true,true,true,false,false,false,false,false,false,false,false,false,false,false,false,false,false,false,false,false,false,false] kr kr kr kr (fun w_ S_=>OK.index 26 26 1 ra p1 n (i.gK/32).toNat (i.gK/32) (p1.add (i.gK/32).toNat) kr kr hp1 om oz nO) rfl<|WA.takeOK 6 #[true,true,true,true,true,true,true,false,false,false,false,false,false,false,false,false,false,false,false,false,false,false,false,false,false] kr kr kr kr (fun w_ S_=>OK.ldCell 27 3 (p1.add (i.gK/32).toNat) (iv (cs.getD (i.gK/32).toNat 0)) kr kr (ct (g:=(Value.int .i64)) S_ 2 rfl hp1 0 (i.gK/32).toNat oz)) rfl<|WA.take 7 28 (pv bm) #[true,true,true,true,true,true,true,true,false,false,false,false,false,false,false,false,false,false,false,false,false,false,false,false,false] kr kr kr (fun _ _=>kr) kr<|WA.take 8 29 (pv bm) #[true,true,true,true,true,true,true,true,true,false,false,false,false,false,false,false,false,false,false,false,false,false,false,false,false] kr kr kr (fun _ _=>kr) kr<|WA.take 9 30 (.pointer (some ⟨bm,16,none⟩)) #[true,true,true,true,true,true,true,true,true,true,false,false,false,false,false,false,false,false,false,false,false,false,false,false,false] kr kr kr (fun _ _=>kr) kr ?_
 exact WA.takeOK 10 #[true,true,true,true,true,true,true,true,true,true,true,false,false,false,false,false,false,false,false,false,false,false,false,false,false] kr kr kr kr (fun w_ S_=>OK.ldMt S_ 1 rfl 31 26 16 aS0) rfl<|WA.take 11 32 (iv (i.gK/32)) #[true,true,true,true,true,true,true,true,true,true,true,true,false,false,false,false,false,false,false,false,false,false,false,false,false] kr kr kr (fun _ _=>kr) kr<|WA.take 12 33 (iv (IntKind.wrap .i64 ((i.gK/32)+1))) #[true,true,true,true,true,true,true,true,true,true,true,true,true,false,false,false,false,false,false,false,false,false,false,false,false] kr kr kr (fun _ _=>kr) kr<|WA.head (iv ((i.gK/32)+1)) (congrArg (Value.int .i64) (IntWalk.i64_in _ om))<|WA.takeOK 13 #[true,true,true,true,true,true,true,true,true,true,true,true,true,true,false,false,false,false,false,false,false,false,false,false,false] kr kr kr kr (fun w_ S_=>OK.index 34 26 1 ra p2 n ((i.gK/32)+1).toNat ((i.gK/32)+1) (p2.add ((i.gK/32)+1).toNat) kr kr hp2 om oz nO) rfl<|WA.takeOK 14 #[true,true,true,true,true,true,true,true,true,true,true,true,true,true,true,false,false,false,false,false,false,false,false,false,false] kr kr kr kr (fun w_ S_=>OK.ldCell 35 3 (p2.add ((i.gK/32)+1).toNat) (iv (cs.getD ((i.gK/32)+1).toNat 0)) kr kr (ct (g:=(Value.int .i64)) S_ 2 rfl hp2 0 ((i.gK/32)+1).toNat oz)) rfl<|WA.take 15 36 (.agg #[iv (cs.getD (i.gK/32).toNat 0),iv (cs.getD ((i.gK/32)+1).toNat 0)]) #[true,true,true,true,true,true,true,true,true,true,true,true,true,true,true,true,false,false,false,false,false,false,false,false,false] kr kr kr (fun _ _=>kr) kr<|WA.take 16 37 (iv (min (max x (-1099511627776)) 1099511627776)) #[true,true,true,true,true,true,true,true,true,true,true,true,true,true,true,true,true,false,false,false,false,false,false,false,false] kr kr kr (fun _ _=>kr) kr<|WA.take 17 38 (iv (i.gK%32)) #[true,true,true,true,true,true,true,true,true,true,true,true,true,true,true,true,true,true,false,false,false,false,false,false,false] kr kr kr (fun _ _=>kr) kr<|WA.weaken (env':=[(0,pv bm),(2,iv (min (max x (-1099511627776)) 1099511627776)),(7,iv (i.gK/32)),(8,iv (i.gK%32)),(36,.agg #[iv (cs.getD (i.gK/32).toNat 0),iv (cs.getD ((i.gK/32)+1).toNat 0)]),(37,iv (min (max x (-1099511627776)) 1099511627776)),(38,iv (i.gK%32))]) kr<|W5 w19 S19

end
end Go.Proofs.YtaoolgcddapegaaGreat

namespace Go.Proofs.YtaoolgcddapegaaGreat
noncomputable section
open Go.Eng Go.RowKit Go.Proofs.Tryz
set_option maxRecDepth 20000
set_option maxHeartbeats 20000000
theorem hb29:af prog 29:=fun _ _=>by kernel_rfl
def K29_0:=List.drop 1 (adv 10 [] (cR (adv 7 [] (bi Tryz.f29))))
theorem execute_any (p:Prg) (i:Ins) (bm:Nat) (rs:List Int) (ra:Option Addr) (n rc:Nat) (cs:List Int) (w0:World) (L0:List Eng.Claim) (w:World) (S0:Sep w0 (box bm (mxC rs [.slice ra n rc]) 44::ak aA ra rc 3 1 cs::L0) w) (hrs:rs.length=16) (hn:cs.length=n) (hp:prgQ w0 p) (hi:insQ w0 i) (hv:bX p=true) (hf:cN p i=true) (hcn:(n:Int)=p.ap):Ret prog 29 #[.agg (dq p),pv bm,.agg (dP i)] w (fun v w'=>v=iv (exE p i rs)∧Sep w0 (box bm (mxC (exR p i rs cs) [.slice ra n rc]) 44::ak aA ra rc 3 1 (exC i rs cs)::L0) w'):=by
 refine Ret.st (N:=160) func29 fun R hR _=>?_
 obtain ⟨q1,q2,q3,q4,q5,q6,q7,q8,q9,q10,q11,q12,q13,q14,q15,q16,q17,q18,q19,q20,q21,q22,q23,q24,q25,_⟩:=id hp
 have ql1:=q2.len_eq
 have ql2:=q5.len_eq
 have ql3:=q8.len_eq
 have ql4:=q11.len_eq
 have ql5:=q15.len_eq
 have ql6:=q18.len_eq
 have ql7:=q21.len_eq
 have ql8:=q24.len_eq
 obtain ⟨q26,q27,q28,q29,q30,_⟩:=id hi
 have hfp:=formB_iff.1 (fits_form hf).1
 have hnm:=(fits_form hf).2
 have hop1:=op_facts hnm
 refine J.nw 2 [] [] [] S0 3 (aO p) 28 fun b1 w1 S1=>J.nw 0 [] [] [] S1 5 (aZ i) 64 fun b2 w2 S2=>J.r 3 [] [] []<|J.drawStill S2 24 Tryz.mixed kr kr kr ?_
 intro w3 S3
 refine SL.r 13 (pv bm)<|SL.r 14 (.pointer (some ⟨b2,1,none⟩))<|SL.lb S3 0 rfl 15 (iv i.gA)<|SL.r 16 (pv bm)<|SL.r 17 (pv bm)<|SL.ok dE (OK.indexP 18 42 16 1 bm 0 ((i.gA).toNat) i.gA kr kr om om)<|SL.head (.pointer (some ⟨bm,(i.gA).toNat,none⟩)) zO<|SL.ok dE (OK.ldMi S3 2 rfl 19 3 ((i.gA).toNat))<|SL.r 20 (pv bm)<|SL.r 21 (.pointer (some ⟨b2,2,none⟩))<|SL.lb S3 0 rfl 22 (iv i.gB) ?_
 refine SL.r 23 (pv bm)<|SL.r 24 (pv bm)<|SL.ok dE (OK.indexP 25 42 16 1 bm 0 ((i.gB).toNat) i.gB kr kr om om)<|SL.head (.pointer (some ⟨bm,(i.gB).toNat,none⟩)) zO<|SL.ok dE (OK.ldMi S3 2 rfl 26 3 ((i.gB).toNat))<|SL.r 27 (pv bm)<|SL.r 28 (.pointer (some ⟨b2,3,none⟩))<|SL.lb S3 0 rfl 29 (iv i.gC)<|SL.r 30 (pv bm)<|SL.r 31 (pv bm)<|SL.ok dE (OK.indexP 32 42 16 1 bm 0 ((i.gC).toNat) i.gC kr kr om om) ?_
 refine SL.head (.pointer (some ⟨bm,(i.gC).toNat,none⟩)) zO<|SL.ok dE (OK.ldMi S3 2 rfl 33 3 ((i.gC).toNat))<|SL.r 7 (iv (rs.getD ((i.gA).toNat) 0))<|SL.r 8 (iv (rs.getD ((i.gB).toNat) 0))<|SL.r 9 (iv (rs.getD ((i.gC).toNat) 0))<|SL.done<|TL.done kr<|J.lb 8 [] [] [] S3 0 rfl 35 (iv i.gOp) ?_
 have X1:∀ (out:Int) (cl:List Int) (w4:World),(out=exV p i rs cs)→(cl=exC i rs cs)→(exE p i rs=0)→(i.gOp≠3)→Sep w0 (box b2 (aZ i) 64::box b1 (aO p) 28::box bm (mxC rs [.slice ra n rc]) 44::ak aA ra rc 3 1 cl::L0) w4→J prog 29 160 R K29_0 [(5,pv b2),(1,pv bm),(10,iv out)] w4:=by
  intro out cl w4 hout hcl hz hop S4
  refine J.r 1 [] [] []<|J.drawTail S4 7 Tryz.mixed kr kr ?_
  intro w5 S5
  refine SL.r 153 (pv bm)<|SL.r 154 (.pointer (some ⟨b2,1,none⟩))<|SL.lb S5 0 rfl 155 (iv i.gA)<|SL.r 156 (iv out)<|SL.r 157 (pv bm)<|SL.r 158 (pv bm)<|SL.ok dE (OK.indexP 159 42 16 1 bm 0 ((i.gA).toNat) i.gA kr kr om om)<|SL.head (.pointer (some ⟨bm,(i.gA).toNat,none⟩)) zO<|SL.done<|TL.stBox S5 2 3 (i.gA).toNat (iv out) (mxC (rs.set ((i.gA).toNat) out) [.slice ra n rc]) (box b2 (aZ i) 64::box b1 (aO p) 28::box bm (mxC (rs.set ((i.gA).toNat) out) [.slice ra n rc]) 44::ak aA ra rc 3 1 cl::L0) kr rfl kr (stV_mi out oz) rfl ?_
  intro w6 S6
  refine TL.done kr<|J.e 4 [iv 0] func29 (hR _ _ ?_)
  have e1:exR p i rs cs=rs.set i.gA.toNat out:=by unfold exR;rw[if_neg om,hout]
  exact⟨by rw[hz];rfl,by rw[e1,← hcl];exact((S6.erase 0).erase 0)⟩
 refine J.c 7 [] [] [] 48 (i.gOp=1) (fun fk1=>?_) fun fk1=>?_
 exact J.lb 3 [true] [] [] S3 0 rfl 51 (iv i.gK)<|J.t 3 (X1 i.gK cs w3 (by unfold exV;(repeat first | rw[if_pos om] | rw[if_neg om])<;>(try simp only[eD,eE,decide_true,decide_false,Bool.not_true,Bool.not_false,Bool.true_and,Bool.false_and,Bool.true_or,Bool.false_or])) (by unfold exC;(repeat first | rw[if_pos om] | rw[if_neg om])) (by unfold exE;rw[if_neg om]) om S3)
 refine J.c 6 [false] [] [] 52 (i.gOp=2) (fun fk2=>?_) fun fk2=>?_
 refine J.r 1 [true] [] [] ?_
 obtain ⟨p1,hp1⟩:=bK (S3.nth 3 rfl) (show 0<(cs).length by first | omega | (simp;omega))
 refine J.drawStill S3 9 Tryz.mixed kr kr kr ?_
 intro w7 S7
 refine SL.r 54 (pv bm)<|SL.r 55 (pv bm)<|SL.r 56 (.pointer (some ⟨bm,16,none⟩))<|SL.ok dE (OK.ldMt S7 2 rfl 57 26 16 aS0)<|SL.r 58 (.pointer (some ⟨b2,4,none⟩))<|SL.lb S7 0 rfl 59 (iv i.gK)<|SL.ok dE (OK.index 60 26 1 ra p1 n (i.gK).toNat i.gK (p1.add (i.gK).toNat) kr kr hp1 om oz nO)<|SL.ok dE (OK.ldCell 61 3 (p1.add (i.gK).toNat) (iv (cs.getD (i.gK).toNat 0)) kr kr (ct (g:=(Value.int .i64)) S7 3 rfl hp1 0 (i.gK).toNat oz))<|SL.r 10 (iv (cs.getD (i.gK).toNat 0))<|SL.done<|TL.done kr ?_
 exact J.t 1 (X1 (cs.getD (i.gK).toNat 0) cs w7 (by unfold exV;(repeat first | rw[if_pos om] | rw[if_neg om])<;>(try simp only[eD,eE,decide_true,decide_false,Bool.not_true,Bool.not_false,Bool.true_and,Bool.false_and,Bool.true_or,Bool.false_or])) (by unfold exC;(repeat first | rw[if_pos om] | rw[if_neg om])) (by unfold exE;rw[if_neg om]) om S7)
 refine J.c 6 [false] [] [] 62 (i.gOp=3) (fun fk3=>?_) fun fk3=>?_
 refine J.r 2 [true] [] [] ?_
 obtain ⟨p2,hp2⟩:=bK (S3.nth 3 rfl) (show 0<(cs).length by first | omega | (simp;omega))
 refine J.drawTail S3 8 Tryz.mixed kr kr ?_
 intro w8 S8
 refine SL.r 64 (pv bm)<|SL.r 65 (pv bm)<|SL.r 66 (.pointer (some ⟨bm,16,none⟩))<|SL.ok dE (OK.ldMt S8 2 rfl 67 26 16 aS0)<|SL.r 68 (.pointer (some ⟨b2,4,none⟩))<|SL.lb S8 0 rfl 69 (iv i.gK)<|SL.r 70 (iv (rs.getD ((i.gA).toNat) 0))<|SL.ok dE (OK.index 71 26 1 ra p2 n (i.gK).toNat i.gK (p2.add (i.gK).toNat) kr kr hp2 om oz nO)<|SL.done<|TL.stRow1 (Value.int .i64) (dO _) S8 3 cs 3 p2 (i.gK).toNat (rs.getD ((i.gA).toNat) 0) rfl kr hp2 oz kr ?_
 intro w9 S9
 replace S9:Sep w0 (box b2 (aZ i) 64::box b1 (aO p) 28::box bm (mxC rs [.slice ra n rc]) 44::ak aA ra rc 3 1 (cs.set (i.gK).toNat (rs.getD ((i.gA).toNat) 0))::L0) w9:=S9
 refine TL.done kr<|J.e 4 [iv 0] func29 (hR _ _ ?_)
 have e0:exE p i rs=0:=by unfold exE;rw[if_neg om]
 have e1:exR p i rs cs=rs:=by unfold exR;rw[if_pos om]
 have e2:exC i rs cs=cs.set i.gK.toNat (rs.getD i.gA.toNat 0):=by unfold exC;rw[if_pos om]
 exact⟨by rw[e0];rfl,by rw[e1,e2];exact((S9.erase 0).erase 0)⟩
 refine J.c 6 [false] [] [] 72 (i.gOp=4) (fun fk4=>?_) fun fk4=>?_
 exact J.t 6 (X1 (rs.getD ((i.gB).toNat) 0) cs w3 (by unfold exV;(repeat first | rw[if_pos om] | rw[if_neg om])<;>(try simp only[eD,eE,decide_true,decide_false,Bool.not_true,Bool.not_false,Bool.true_and,Bool.false_and,Bool.true_or,Bool.false_or])) (by unfold exC;(repeat first | rw[if_pos om] | rw[if_neg om])) (by unfold exE;rw[if_neg om]) om S3)
 refine J.c 6 [false] [] [] 75 (i.gOp=11) (fun fk5=>?_) fun fk5=>?_
 exact J.h 5 [true] [] [] 79 (iv (if (rs.getD ((i.gC).toNat) 0)<(rs.getD ((i.gB).toNat) 0) then (rs.getD ((i.gC).toNat) 0) else (rs.getD ((i.gB).toNat) 0))) (iv (min (rs.getD ((i.gB).toNat) 0) (rs.getD ((i.gC).toNat) 0))) (congrArg (Value.int .i64) om)<|J.t 3 (X1 (min (rs.getD ((i.gB).toNat) 0) (rs.getD ((i.gC).toNat) 0)) cs w3 (by unfold exV;(repeat first | rw[if_pos om] | rw[if_neg om])<;>(try simp only[eD,eE,decide_true,decide_false,Bool.not_true,Bool.not_false,Bool.true_and,Bool.false_and,Bool.true_or,Bool.false_or])) (by unfold exC;(repeat first | rw[if_pos om] | rw[if_neg om])) (by unfold exE;rw[if_neg om]) om S3)
 refine J.c 6 [false] [] [] 80 (i.gOp=12) (fun fk6=>?_) fun fk6=>?_
 exact J.h 5 [true] [] [] 84 (iv (if (rs.getD ((i.gC).toNat) 0)>(rs.getD ((i.gB).toNat) 0) then (rs.getD ((i.gC).toNat) 0) else (rs.getD ((i.gB).toNat) 0))) (iv (max (rs.getD ((i.gB).toNat) 0) (rs.getD ((i.gC).toNat) 0))) (congrArg (Value.int .i64) om)<|J.t 3 (X1 (max (rs.getD ((i.gB).toNat) 0) (rs.getD ((i.gC).toNat) 0)) cs w3 (by unfold exV;(repeat first | rw[if_pos om] | rw[if_neg om])<;>(try simp only[eD,eE,decide_true,decide_false,Bool.not_true,Bool.not_false,Bool.true_and,Bool.false_and,Bool.true_or,Bool.false_or])) (by unfold exC;(repeat first | rw[if_pos om] | rw[if_neg om])) (by unfold exE;rw[if_neg om]) om S3)
 refine J.c 6 [false] [] [] 85 (i.gOp=15) (fun fk7=>?_) fun fk7=>?_
 exact J.c0 5 [true] [] [] S3 90 hb61 (el (decide ((rs.getD ((i.gB).toNat) 0)<(rs.getD ((i.gC).toNat) 0))) _) fun w10 S10=>J.t 3 (X1 (dH (decide ((rs.getD ((i.gB).toNat) 0)<(rs.getD ((i.gC).toNat) 0)))) cs w10 (by unfold exV;(repeat first | rw[if_pos om] | rw[if_neg om])<;>(try simp only[eD,eE,decide_true,decide_false,Bool.not_true,Bool.not_false,Bool.true_and,Bool.false_and,Bool.true_or,Bool.false_or])) (by unfold exC;(repeat first | rw[if_pos om] | rw[if_neg om])) (by unfold exE;rw[if_neg om]) om S10)
 refine J.c 6 [false] [] [] 91 (i.gOp=16) (fun fk8=>?_) fun fk8=>?_
 refine J.cn 5 [true] [] [] 95 ((rs.getD ((i.gB).toNat) 0)=0) (fun fk9=>?_) fun fk9=>?_
 exact J.c0 3 [] [] [] S3 99 hb61 (el false _) fun w11 S11=>J.t 3 (X1 (dH false) cs w11 (by unfold exV;(repeat first | rw[if_pos om] | rw[if_neg om])<;>(try simp only[eD,eE,decide_true,decide_false,Bool.not_true,Bool.not_false,Bool.true_and,Bool.false_and,Bool.true_or,Bool.false_or,fk9])) (by unfold exC;(repeat first | rw[if_pos om] | rw[if_neg om])) (by unfold exE;rw[if_neg om]) om S11)
 exact J.c0 3 [] [] [] S3 99 hb61 (el ((rs.getD ((i.gC).toNat) 0) != 0) _) fun w12 S12=>J.t 3 (X1 (dH ((rs.getD ((i.gC).toNat) 0) != 0)) cs w12 (by unfold exV;(repeat first | rw[if_pos om] | rw[if_neg om])<;>(try simp only[eD,eE,decide_true,decide_false,Bool.not_true,Bool.not_false,Bool.true_and,Bool.false_and,Bool.true_or,Bool.false_or,fk9])) (by unfold exC;(repeat first | rw[if_pos om] | rw[if_neg om])) (by unfold exE;rw[if_neg om]) om S12)
 refine J.c 6 [false] [] [] 100 (i.gOp=17) (fun fk10=>?_) fun fk10=>?_
 refine J.cn 5 [true] [] [] 104 ((rs.getD ((i.gB).toNat) 0)=0) (fun fk11=>?_) fun fk11=>?_
 exact J.c0 3 [] [] [] S3 108 hb61 (el ((rs.getD ((i.gC).toNat) 0) != 0) _) fun w13 S13=>J.t 3 (X1 (dH ((rs.getD ((i.gC).toNat) 0) != 0)) cs w13 (by unfold exV;(repeat first | rw[if_pos om] | rw[if_neg om])<;>(try simp only[eD,eE,decide_true,decide_false,Bool.not_true,Bool.not_false,Bool.true_and,Bool.false_and,Bool.true_or,Bool.false_or,fk11])) (by unfold exC;(repeat first | rw[if_pos om] | rw[if_neg om])) (by unfold exE;rw[if_neg om]) om S13)
 exact J.c0 3 [] [] [] S3 108 hb61 (el true _) fun w14 S14=>J.t 3 (X1 (dH true) cs w14 (by unfold exV;(repeat first | rw[if_pos om] | rw[if_neg om])<;>(try simp only[eD,eE,decide_true,decide_false,Bool.not_true,Bool.not_false,Bool.true_and,Bool.false_and,Bool.true_or,Bool.false_or,fk11])) (by unfold exC;(repeat first | rw[if_pos om] | rw[if_neg om])) (by unfold exE;rw[if_neg om]) om S14)
 refine J.c 6 [false] [] [] 109 (i.gOp=18) (fun fk12=>?_) fun fk12=>?_
 exact J.c0 4 [true] [] [] S3 113 hb61 (el ((rs.getD ((i.gB).toNat) 0)==0) _) fun w15 S15=>J.t 3 (X1 (dH ((rs.getD ((i.gB).toNat) 0)==0)) cs w15 (by unfold exV;(repeat first | rw[if_pos om] | rw[if_neg om])<;>(try simp only[eD,eE,decide_true,decide_false,Bool.not_true,Bool.not_false,Bool.true_and,Bool.false_and,Bool.true_or,Bool.false_or])) (by unfold exC;(repeat first | rw[if_pos om] | rw[if_neg om])) (by unfold exE;rw[if_neg om]) om S15)
 refine J.c 6 [false] [] [] 114 (i.gOp=19) (fun fk13=>?_) fun fk13=>?_
 refine J.r 7 [true] [(10,iv (rs.getD ((i.gC).toNat) 0))] []<|J.drawStill S3 8 Tryz.mixed kr kr kr ?_
 intro w16 S16
 refine SL.r 117 (pv bm)<|SL.r 118 (.pointer (some ⟨b2,4,none⟩))<|SL.lb S16 0 rfl 119 (iv i.gK)<|SL.r 120 (pv bm)<|SL.r 121 (pv bm)<|SL.ok dE (OK.indexP 122 42 16 1 bm 0 ((i.gK).toNat) i.gK kr kr om om)<|SL.head (.pointer (some ⟨bm,(i.gK).toNat,none⟩)) zO<|SL.ok dE (OK.ldMi S16 2 rfl 123 3 ((i.gK).toNat))<|SL.r 124 (.bool ((rs.getD ((i.gK).toNat) 0) != 0))<|SL.done<|TL.done kr ?_
 refine J.cn 0 [] [] [] 124 ((rs.getD ((i.gK).toNat) 0)=0) (fun fk14=>?_) fun fk14=>?_
 exact J.t 3 (X1 (rs.getD ((i.gC).toNat) 0) cs w16 (by unfold exV;(repeat first | rw[if_pos om] | rw[if_neg om])<;>(try simp only[eD,eE,decide_true,decide_false,Bool.not_true,Bool.not_false,Bool.true_and,Bool.false_and,Bool.true_or,Bool.false_or,fk14])) (by unfold exC;(repeat first | rw[if_pos om] | rw[if_neg om])) (by unfold exE;rw[if_neg om]) om S16)
 exact J.t 6 (X1 (rs.getD ((i.gB).toNat) 0) cs w16 (by unfold exV;(repeat first | rw[if_pos om] | rw[if_neg om])<;>(try simp only[eD,eE,decide_true,decide_false,Bool.not_true,Bool.not_false,Bool.true_and,Bool.false_and,Bool.true_or,Bool.false_or,fk14])) (by unfold exC;(repeat first | rw[if_pos om] | rw[if_neg om])) (by unfold exE;rw[if_neg om]) om S16)
 refine J.c 6 [false] [] [] 126 (i.gOp=20) (fun fk15=>?_) fun fk15=>?_
 refine J.lb 3 [true] [] [] S3 1 rfl 129 (.slice p.ce p.br p.cu)<|J.lb 1 [] [] [] S3 0 rfl 131 (iv i.gK) ?_
 obtain ⟨p3,hp3,hc1⟩:=q8.at (⟨none,0,0,[],none,0,0,[]⟩:Crv) (i.gK).toNat om
 have hel1:=aP q9 (⟨none,0,0,[],none,0,0,[]⟩:Crv) (n:=(i.gK).toNat) (by have:=q8.len_eq;omega)
 obtain ⟨q31,q32,q33,q34,q35,q36,_⟩:=id hel1
 have ql9:=q32.len_eq
 have ql10:=q35.len_eq
 exact J.ok (OK.index 132 24 2 p.ce p3 p.br (i.gK).toNat i.gK (p3.add ((i.gK).toNat*2)) kr kr hp3 om om rfl)<|J.ok (OK.ldCells 133 57 (p3.add ((i.gK).toNat*2)) (crvC (p.bS.getD (i.gK).toNat (⟨none,0,0,[],none,0,0,[]⟩:Crv))) kr kr kr (fun j_ v_ hj_=>S3.cell (hc1 j_ v_ hj_)))<|J.c0 1 [] [] [] S3 135 hb62 (cAt_any (p.bS.getD (i.gK).toNat (⟨none,0,0,[],none,0,0,[]⟩:Crv)) (rs.getD ((i.gB).toNat) 0) _ (dV hel1 S3)) fun w17 S17=>J.t 3 (X1 (atV (p.bS.getD (i.gK).toNat (⟨none,0,0,[],none,0,0,[]⟩:Crv)) (rs.getD ((i.gB).toNat) 0)) cs w17 (by unfold exV;(repeat first | rw[if_pos om] | rw[if_neg om])<;>(try simp only[eD,eE,decide_true,decide_false,Bool.not_true,Bool.not_false,Bool.true_and,Bool.false_and,Bool.true_or,Bool.false_or])) (by unfold exC;(repeat first | rw[if_pos om] | rw[if_neg om])) (by unfold exE;rw[if_neg om]) om S17)
 refine J.c 6 [false] [] [] 136 (i.gOp=21) (fun fk16=>?_) fun fk16=>?_
 refine J.lb 3 [true] [] [] S3 1 rfl 139 (.slice p.dc p.bO p.dz)<|J.lb 1 [] [] [] S3 0 rfl 141 (iv i.gK) ?_
 obtain ⟨p4,hp4,hc2⟩:=q11.at (⟨none,0,0,[],none,0,0,[],none,0,0,[]⟩:Mp) (i.gK).toNat om
 have hel2:=aP q12 (⟨none,0,0,[],none,0,0,[],none,0,0,[]⟩:Mp) (n:=(i.gK).toNat) (by have:=q11.len_eq;omega)
 obtain ⟨q37,q38,q39,q40,q41,q42,q43,q44,q45,_⟩:=id hel2
 have ql11:=q38.len_eq
 have ql12:=q41.len_eq
 have ql13:=q44.len_eq
 exact J.ok (OK.index 142 25 3 p.dc p4 p.bO (i.gK).toNat i.gK (p4.add ((i.gK).toNat*3)) kr kr hp4 om om rfl)<|J.ok (OK.ldCells 143 61 (p4.add ((i.gK).toNat*3)) (mpC (p.cX.getD (i.gK).toNat (⟨none,0,0,[],none,0,0,[],none,0,0,[]⟩:Mp))) kr kr kr (fun j_ v_ hj_=>S3.cell (hc2 j_ v_ hj_)))<|J.c0 2 [] [] [] S3 146 hb63 (At_any (p.cX.getD (i.gK).toNat (⟨none,0,0,[],none,0,0,[],none,0,0,[]⟩:Mp)) (rs.getD ((i.gB).toNat) 0) (rs.getD ((i.gC).toNat) 0) _ (dZ hel2 S3)) fun w18 S18=>J.t 3 (X1 (atF (p.cX.getD (i.gK).toNat (⟨none,0,0,[],none,0,0,[],none,0,0,[]⟩:Mp)) (rs.getD ((i.gB).toNat) 0) (rs.getD ((i.gC).toNat) 0)) cs w18 (by unfold exV;(repeat first | rw[if_pos om] | rw[if_neg om])<;>(try simp only[eD,eE,decide_true,decide_false,Bool.not_true,Bool.not_false,Bool.true_and,Bool.false_and,Bool.true_or,Bool.false_or])) (by unfold exC;(repeat first | rw[if_pos om] | rw[if_neg om])) (by unfold exE;rw[if_neg om]) om S18)
 refine J.c 6 [false] [] [] 147 (i.gOp=22) (fun fk17=>?_) fun fk17=>?_
 refine J.lb 3 [true] [(149,pv bm)] [] S3 0 rfl 150 (.agg (dP i))<|J.r 1 [] [(151,iv (rs.getD ((i.gB).toNat) 0))] [] ?_
 have S19:=S3.front 3 rfl
 have S20:Sep w0 (box bm (mxC rs [.slice ra n rc]) 44::ak aA ra rc 3 1 cs::box b2 (aZ i) 64::box b1 (aO p) 28::L0) w3:=S19.front 3 rfl
 refine J.callF 152 64 #[pv bm,.agg (dP i),iv (rs.getD ((i.gB).toNat) 0)] hb64 kr (lag_any bm rs ra n rc cs i (rs.getD ((i.gB).toNat) 0) _ _ _ S20 aS0 oz hi om) ?_
 rintro _ w19 ⟨rfl,S21⟩
 replace S21:Sep w0 (box bm (mxC rs [.slice ra n rc]) 44::ak aA ra rc 3 1 (lgC i cs (rs.getD ((i.gB).toNat) 0))::box b2 (aZ i) 64::box b1 (aO p) 28::L0) w19:=S21
 have S22:=S21.front 3 rfl
 have S23:Sep w0 (box b2 (aZ i) 64::box b1 (aO p) 28::box bm (mxC rs [.slice ra n rc]) 44::ak aA ra rc 3 1 (lgC i cs (rs.getD ((i.gB).toNat) 0))::L0) w19:=S22.front 3 rfl
 exact J.t 3 (X1 (lgY i cs (rs.getD ((i.gB).toNat) 0)) (lgC i cs (rs.getD ((i.gB).toNat) 0)) w19 (by unfold exV;(repeat first | rw[if_pos om] | rw[if_neg om])<;>(try simp only[eD,eE,decide_true,decide_false,Bool.not_true,Bool.not_false,Bool.true_and,Bool.false_and,Bool.true_or,Bool.false_or])) (by unfold exC;(repeat first | rw[if_pos om] | rw[if_neg om])) (by unfold exE;rw[if_neg om]) om S23)
 refine J.lb 3 [false] [] [] S3 1 rfl 37 (.agg (dq p))<|J.lb 0 [] [] [] S3 0 rfl 38 (.agg (dP i))<|J.r 2 [] [(40,iv (rs.getD ((i.gC).toNat) 0)),(39,iv (rs.getD ((i.gB).toNat) 0))] []<|J.c0 0 [] [] [] S3 41 hb65 (arith_any p i (rs.getD ((i.gB).toNat) 0) (rs.getD ((i.gC).toNat) 0) _ (cS hp S3) (dF hi S3) hv hf om) fun w20 S24=>J.cn 12 [] [(12,iv (arE (i).gOp (tyB p (i).gOp (i).gK) (rs.getD ((i.gC).toNat) 0))),(11,iv (arV (i).gOp (tyA p (i).gOp (i).gK) (tyB p (i).gOp (i).gK) (tyC p (i).gOp (i).gK) (rs.getD ((i.gB).toNat) 0) (rs.getD ((i.gC).toNat) 0)))] [] 45 ((arE (i).gOp (tyB p (i).gOp (i).gK) (rs.getD ((i.gC).toNat) 0))=0) (fun fk18=>?_) fun fk18=>?_
 exact J.t 7 (X1 (arV (i).gOp (tyA p (i).gOp (i).gK) (tyB p (i).gOp (i).gK) (tyC p (i).gOp (i).gK) (rs.getD ((i.gB).toNat) 0) (rs.getD ((i.gC).toNat) 0)) cs w20 (by unfold exV;(repeat first | rw[if_pos om] | rw[if_neg om])<;>(try simp only[eD,eE,decide_true,decide_false,Bool.not_true,Bool.not_false,Bool.true_and,Bool.false_and,Bool.true_or,Bool.false_or,fk18])) (by unfold exC;(repeat first | rw[if_pos om] | rw[if_neg om])) (by unfold exE;rw[if_pos om];exact fk18) om S24)
 refine J.e 6 [iv (arE (i).gOp (tyB p (i).gOp (i).gK) (rs.getD ((i.gC).toNat) 0))] func29 (hR _ _ ?_)
 have e0:exE p i rs=arE (i).gOp (tyB p (i).gOp (i).gK) (rs.getD ((i.gC).toNat) 0):=by unfold exE;rw[if_pos om]
 have e1:exR p i rs cs=rs:=by unfold exR;rw[if_pos (by rw[e0];omega)]
 have e2:exC i rs cs=cs:=by unfold exC;rw[if_neg om,if_neg om]
 exact⟨by rw[e0];rfl,by rw[e1,e2];exact((S24.erase 0).erase 0)⟩
theorem rn_step {p:Prg} {rs cs rl cl:List Int} {k:Nat} (hr:rl=(rnF p rs cs k).1) (hc:cl=(rnF p rs cs k).2):exR p (p.aB.getD k bq) rl cl=(rnF p rs cs (k+1)).1∧exC (p.aB.getD k bq) rl cl=(rnF p rs cs (k+1)).2:=by
  subst hr;subst hc;exact⟨rfl,rfl⟩
theorem rn_err {p:Prg} {rs cs rl:List Int} {k:Nat} (hr:rl=(rnF p rs cs k).1) (he:rnE p rs cs k=0):rnE p rs cs (k+1)=exE p (p.aB.getD k bq) rl:=by
  subst hr;rw[rnE,if_pos he];rfl
theorem rn_fin {p:Prg} {rs cs rl:List Int} {k n:Nat} {e:Int} (hr:rl=(rnF p rs cs k).1) (he:rnE p rs cs k=0) (hx:exE p (p.aB.getD k bq) rl=e) (hz:e≠0) (hk:k<n):rnE p rs cs n=e:=by
  rw[rnE_stop (k:=k+1) (by rw[rn_err hr he,hx];exact hz) n hk,rn_err hr he,hx]
theorem outC_succ {p:Prg} {cs:List Int} {k:Nat} (h:k<p.aM.length):outC p cs (k+1)=outC p cs k++[cs.getD (p.aM.getD k 0).toNat 0]:=by
  unfold outC
  rw[List.take_add_one,List.map_append,List.getElem?_eq_getElem h,List.getD_eq_getElem?_getD (l:=p.aM),List.getElem?_eq_getElem h];rfl
theorem outC_len {p:Prg} {cs:List Int} {k:Nat} (h:k≤p.aM.length):(outC p cs k).length=k:=by
  unfold outC;rw[List.length_map,List.length_take];omega
theorem rg_in {p:Prg} {n:Nat} {l xs:List Int} (hv:bX p=true) (hn:(n:Int)=p.ap) (hx:xs.length=p.aq):rgE p n l xs=rnE p zR (inC p l xs p.aq) p.bl:=by
  unfold rgE;rw[goodP_iff.2 ⟨hv,hn⟩,decide_eq_true hx];rfl
theorem rg_out {p:Prg} {n:Nat} {l xs:List Int} (h:goodP p n=false∨xs.length≠p.aq):rgE p n l xs=1:=by
  unfold rgE
  rcases h with h | h
  · rw[h];rfl
  · rw[decide_eq_false h,Bool.and_false];rfl
theorem hb28:af prog 28:=fun _ _=>by kernel_rfl

theorem copyof_any (rs:List Int) (la:Option Addr) (n c:Nat) (cs:List Int) (w:World) (hrs:rs.length=16) (hI:dj w la n cs) (hnb:n≤4096):Ret prog 28 #[.agg (mxA rs [.slice la n c])] w (fun v w'=>∃ a cap,v=.agg (mxA rs [.slice a cs.length cap])∧Sep w [ak aA a cap 3 1 cs] w'):=by
 refine Ret.st (N:=8) func28 fun R hR S0=>?_
 have hcl:=hI.len_eq
 refine J.r 2 [] [] []<|J.new S0 1 (mxC rs [.slice la n c]) 44 kr ?_
 intro b1 w1 S1
 refine J.new S1 2 (mxC (List.replicate 16 (0:Int)) [.slice none 0 0]) 44 kr ?_
 intro b2 w2 S2
 refine J.r 4 [] [(3,.pointer (some ⟨b1,16,none⟩))] []<|J.ok (OK.ldMt S2 1 rfl 4 26 16 aS0)<|J.cf 0 [] [] [] 5 hb60 (clone_any la n c cs _ (hI.sep S2) om om) ?_
 rintro _ w3 ⟨ra1,rc1,rfl,T1⟩
 have S3:Sep w [ak aA ra1 rc1 3 1 cs,box b2 (mxC (List.replicate 16 (0:Int)) [.slice none 0 0]) 44,box b1 (mxC rs [.slice la n c]) 44] w3:=S2.trans T1
 exact J.r 1 [] [(6,.pointer (some ⟨b1,16,none⟩))] []<|J.stMt S3 2 rfl 26 16 ra1 cs.length rc1 rfl aS0 fun w4 S4=>J.r 3 [] [] []<|J.ok (OK.ldM S4 2 rfl 7 44 16 aS0)<|J.stM S4 1 rfl 16 rs [.slice ra1 cs.length rc1] rfl rfl aS0 fun w5 S5=>J.r 1 [] [] []<|J.ret Tryz.f28 [.agg (mxA rs [.slice ra1 cs.length rc1])] func28 ⟨⟨⟨b2,0,none⟩,kr,aS (S5.nth 1 rfl) (eJ (n:=16) kr kr aS0)⟩,trivial⟩<|hR _ _<|⟨_,_,rfl,S5.pick 0 rfl⟩

theorem hb39:af prog 39:=fun _ _=>by kernel_rfl

theorem rcopy_any (rs:List Int) (la:Option Addr) (n c:Nat) (cs:List Int) (w:World) (hrs:rs.length=16) (hI:dj w la n cs) (hnb:n≤4096):Ret prog 39 #[.agg (mxA rs [.slice la n c])] w (fun v w'=>∃ a cap,v=.agg (mxA rs [.slice a cs.length cap])∧Sep w [ak aA a cap 3 1 cs] w'):=by
 refine Ret.st (N:=9) func39 fun R hR S0=>?_
 have hcl:=hI.len_eq
 refine J.r 2 [] [] []<|J.new S0 1 (mxC rs [.slice la n c]) 44 kr ?_
 intro b1 w1 S1
 refine J.new S1 2 (mxC (List.replicate 16 (0:Int)) [.slice none 0 0]) 44 kr ?_
 intro b2 w2 S2
 refine J.r 3 [] [] []<|J.newSlice S2 3 0 [] 3 kr ?_
 intro b3 w3 S3
 refine J.r 1 [] [(4,.pointer (some ⟨b1,16,none⟩))] []<|J.ok (OK.ldMt S3 2 rfl 5 26 16 aS0) ?_
 have S4:Sep w [ak aA (some ⟨b3,0,none⟩) 0 3 1 ([]),box b2 (mxC (List.replicate 16 (0:Int)) [.slice none 0 0]) 44,box b1 (mxC rs [.slice la n c]) 44] w3:=box_row aA S3 0 [] 1 rfl rfl rfl (by simp[maxLen]) (.inr trivial)
 have hz1:=hI.sep S4
 have:=hz1.len_eq
 refine J.appendN aA S4 0 ([]) cs n oz 6 26 (iv 0) 8 la c rfl kr kr kr kr dE (hI.sep S4).enc (fun h_=>Ones.nil (h_▸hz1)) (fun _=>rfl) (fun _=>rfl) (⟨by first | omega | (simp;omega),by first | omega | (simp;omega)⟩) ?_
 intro ra1 rc1 w4 S5
 replace S5:Sep w [ak aA ra1 rc1 3 1 cs,box b2 (mxC (List.replicate 16 (0:Int)) [.slice none 0 0]) 44,box b1 (mxC rs [.slice la n c]) 44] w4:=S5
 exact J.r 1 [] [(7,.pointer (some ⟨b1,16,none⟩))] []<|J.stMt S5 2 rfl 26 16 ra1 cs.length rc1 rfl aS0 fun w5 S6=>J.r 3 [] [] []<|J.ok (OK.ldM S6 2 rfl 8 44 16 aS0)<|J.stM S6 1 rfl 16 rs [.slice ra1 cs.length rc1] rfl rfl aS0 fun w6 S7=>J.r 1 [] [] []<|J.ret Tryz.f39 [.agg (mxA rs [.slice ra1 cs.length rc1])] func39 ⟨⟨⟨b2,0,none⟩,kr,aS (S7.nth 1 rfl) (eJ (n:=16) kr kr aS0)⟩,trivial⟩<|hR _ _<|⟨_,_,rfl,S7.pick 0 rfl⟩

theorem hb27:af prog 27:=fun _ _=>by kernel_rfl

theorem good_any (p:Prg) (rs:List Int) (la:Option Addr) (n c:Nat) (w:World) (hrs:rs.length=16) (hp:prgQ w p):Ret prog 27 #[.agg (dq p),.agg (mxA rs [.slice la n c])] w (fun v w'=>v=.bool (goodP p n)∧Sep w [] w'):=by
 refine Ret.st (N:=15) func27 fun R hR S0=>?_
 obtain ⟨q1,q2,q3,q4,q5,q6,q7,q8,q9,q10,q11,q12,q13,q14,q15,q16,q17,q18,q19,q20,q21,q22,q23,q24,q25,_⟩:=id hp
 have ql1:=q2.len_eq
 have ql2:=q5.len_eq
 have ql3:=q8.len_eq
 have ql4:=q11.len_eq
 have ql5:=q15.len_eq
 have ql6:=q18.len_eq
 have ql7:=q21.len_eq
 have ql8:=q24.len_eq
 refine J.nw 2 [] [] [] S0 2 (aO p) 28 fun b1 w1 S1=>J.new S1 3 (mxC rs [.slice la n c]) 44 kr ?_
 intro b2 w2 S2
 refine J.lb 4 [] [] [] S2 1 rfl 5 (.agg (dq p))<|J.c0 0 [] [] [] S2 6 hb26 (pvalid_any p _ (cS hp S2)) fun w3 S3=>J.b 1 [] [] [] 7 (bX p) (fun fk1=>?_) fun fk1=>?_
 refine J.r 1 [] [(8,.pointer (some ⟨b2,16,none⟩))] []<|J.ok (OK.ldMt S3 0 rfl 9 26 16 aS0)<|J.lb 2 [] [(10,iv (n:Int))] [] S3 1 rfl 12 (iv p.ap)<|J.e 4 [.bool ((n:Int)==p.ap)] func27 (hR _ _ ?_)
 exact⟨congrArg Value.bool (by unfold goodP;rw[fk1];first | rfl | (rw[Bool.true_and,Bool.eq_iff_iff];simp)),S3.nil⟩
 refine J.e 9 [.bool false] func27 (hR _ _ ?_)
 exact⟨congrArg Value.bool (by unfold goodP;rw[fk1];rfl),S3.nil⟩
theorem hb14:af prog 14:=fun _ _=>by kernel_rfl
def K14_0:=adv 49 [false] (bi Tryz.f14)
def K14_1:=adv 17 [false] K14_0
def K14_2:=adv 21 [false] K14_1
theorem run_any (p:Prg) (rs:List Int) (la:Option Addr) (n c:Nat) (cs:List Int) (ia:Option Addr) (m ic:Nat) (xs:List Int) (w:World) (hrs:rs.length=16) (hp:prgQ w p) (hI:dj w la n cs) (hJ:dj w ia m xs) (hnb:n≤4096):Ret prog 14 #[.agg (dq p),.agg (mxA rs [.slice la n c]),.slice ia m ic] w (fun v w'=>∃ a cap oa oc,v=.tuple #[.agg (mxA (runR p n cs xs) [.slice a (dI p n cs xs).length cap]),.slice oa (ck p n cs xs).length oc,iv (rgE p n cs xs)]∧Sep w [ak aA a cap 3 1 (dI p n cs xs),ak aA oa oc 3 1 (ck p n cs xs)] w'):=by
 refine Ret.st (N:=85) func14 fun R hR S0=>?_
 obtain ⟨q1,q2,q3,q4,q5,q6,q7,q8,q9,q10,q11,q12,q13,q14,q15,q16,q17,q18,q19,q20,q21,q22,q23,q24,q25,_⟩:=id hp
 have ql1:=q2.len_eq
 have ql2:=q5.len_eq
 have ql3:=q8.len_eq
 have ql4:=q11.len_eq
 have ql5:=q15.len_eq
 have ql6:=q18.len_eq
 have ql7:=q21.len_eq
 have ql8:=q24.len_eq
 have hcl:=hI.len_eq
 have hxl:=hJ.len_eq
 refine J.nw 2 [] [] [] S0 3 (aO p) 28 fun b1 w1 S1=>J.new S1 4 (mxC rs [.slice la n c]) 44 kr ?_
 intro b2 w2 S2
 refine J.new S2 6 (mxC (List.replicate 16 (0:Int)) [.slice none 0 0]) 44 kr ?_
 intro b3 w3 S3
 refine J.lb 6 [] [] [] S3 2 rfl 18 (.agg (dq p))<|J.ok (OK.ldM S3 1 rfl 19 44 16 aS0)<|J.c0 0 [] [] [] S3 20 hb27 (good_any p rs la n c _ aS0 (cS hp S3)) fun w4 S4=>J.bn 2 [] [] [] 22 (goodP p n) (fun fk1=>?_) fun fk1=>?_
 have hv:=(goodP_iff.1 fk1).1
 have hgn:=(goodP_iff.1 fk1).2
 have hfi:=fun (j:Nat) (hj:j<p.aB.length)=>code_at hv hj
 have hcz:=(ci hv).1
 obtain ⟨hv1,hv2,hv3,hv4,hv5,hv6,hv7,hv8,hv9,hv10,hv11⟩:=ci hv
 have hin:=(bY hv6).2
 have hou:=(bY hv7).2
 have hon1:=(bY hv7).1
 have hin1:=(bY hv6).1
 refine J.lb 3 [] [(24,iv (m:Int))] [] S4 2 rfl 26 (.slice p.aU p.aq p.aW)<|J.cn 4 [] [] [] 29 ((m:Int)=(p.aq:Int)) (fun fk2=>?_) fun fk2=>?_
 refine J.r 4 [false] [] []<|J.ok (OK.ldM S4 1 rfl 31 44 16 aS0)<|J.cf 0 [] [] [] 32 hb28 (copyof_any rs la n c cs _ aS0 (hI.sep S4) om) ?_
 rintro _ w5 ⟨ra1,rc1,rfl,T1⟩
 have S5:Sep w [ak aA ra1 rc1 3 1 cs,box b3 (mxC (List.replicate 16 (0:Int)) [.slice none 0 0]) 44,box b2 (mxC rs [.slice la n c]) 44,box b1 (aO p) 28] w5:=S4.trans T1
 refine J.new S5 9 (mxC (List.replicate 16 (0:Int)) [.slice none 0 0]) 44 kr ?_
 intro b4 w6 S6
 refine J.stM S6 0 rfl 16 rs [.slice ra1 cs.length rc1] rfl rfl aS0 fun w7 S7=>J.r 5 [] [(34,pv b4),(33,.agg #[iv 0,iv 0,iv 0,iv 0,iv 0,iv 0,iv 0,iv 0,iv 0,iv 0,iv 0,iv 0,iv 0,iv 0,iv 0,iv 0])] []<|J.stBox S7 0 42 0 (.agg #[iv 0,iv 0,iv 0,iv 0,iv 0,iv 0,iv 0,iv 0,iv 0,iv 0,iv 0,iv 0,iv 0,iv 0,iv 0,iv 0]) (mxC (List.replicate 16 (0:Int)) [.slice ra1 cs.length rc1]) [box b4 (mxC (List.replicate 16 (0:Int)) [.slice ra1 cs.length rc1]) 44,ak aA ra1 rc1 3 1 cs,box b3 (mxC (List.replicate 16 (0:Int)) [.slice none 0 0]) 44,box b2 (mxC rs [.slice la n c]) 44,box b1 (aO p) 28] kr rfl kr (stV_mr (l':=List.replicate 16 (0:Int)) (List.length_replicate.trans (by first | exact Eq.symm aS0 | rfl | simp))) rfl ?_
 intro w8 S8
 refine J.lb 5 [] [] [] S8 4 rfl 36 (.slice p.aU p.aq p.aW) ?_
 have L14_1:∀ (mm_:Nat) (cl:List Int) (k:Int) (w9:World),(0≤k)→(k≤(p.aq:Int))→(cl=inC p cs xs (k).toNat)→Sep w [box b4 (mxC (List.replicate 16 (0:Int)) [.slice ra1 cs.length rc1]) 44,ak aA ra1 rc1 3 1 cl,box b3 (mxC (List.replicate 16 (0:Int)) [.slice none 0 0]) 44,box b2 (mxC rs [.slice la n c]) 44,box b1 (aO p) 28] w9→((p.aq:Int)-k).toNat=mm_→J prog 14 85 R K14_0 [(38,iv k),(37,iv (p.aq:Int)),(36,.slice p.aU p.aq p.aW),(9,pv b4),(6,pv b3),(3,pv b1),(2,.slice ia m ic)] w9:=by
  intro mm1
  induction mm1 using Nat.strongRecOn with
  | _ mm1 ih1 =>
  intro cl k w9 k0 k1 hcl2 S9 hm1
  have hcn:cl.length=n:=by rw[hcl2,inC_len];exact hcl
  have hik:k<(p.aq:Int)→_:=fun h_=>hin k.toNat om
  refine J.c 5 [] [] [] 39 (k<(p.aq:Int)) (fun fk3=>?_) fun fk3=>?_
  refine J.r 7 [true] [(40,iv k)] [] ?_
  obtain ⟨p1,hp1,hc1⟩:=q15.at 0 (k).toNat om
  have hel1:=aP q16 0 (n:=(k).toNat) (by have:=q15.len_eq;omega)
  refine J.ok (OK.index 41 26 1 p.aU p1 p.aq (k).toNat k (p1.add (k).toNat) kr kr hp1 om om nO)<|J.ok (OK.ldCell 42 3 (p1.add (k).toNat) (iv (p.au.getD (k).toNat 0)) kr kr (S9.cell hc1))<|J.r 3 [] [(11,iv (p.au.getD (k).toNat 0)),(10,iv k)] [] ?_
  obtain ⟨p2,hp2,hc2⟩:=hJ.at 0 (k).toNat om
  obtain ⟨p3,hp3⟩:=bK (S9.nth 1 rfl) (show 0<(cl).length by first | omega | (simp;omega))
  refine J.drawTail S9 8 Tryz.mixed kr kr ?_
  intro w10 S10
  refine SL.r 43 (.pointer (some ⟨b4,16,none⟩))<|SL.ok dE (OK.ldMt S10 0 rfl 44 26 16 rfl)<|SL.r 45 (iv (p.au.getD (k).toNat 0))<|SL.r 46 (.slice ia m ic)<|SL.r 47 (iv k)<|SL.ok dE (OK.index 48 26 1 ia p2 m (k).toNat k (p2.add (k).toNat) kr kr hp2 om om nO)<|SL.ok dE (OK.ldCell 49 3 (p2.add (k).toNat) (iv (xs.getD (k).toNat 0)) kr kr (S10.cell hc2))<|SL.ok dE (OK.index 50 26 1 ra1 p3 cs.length (p.au.getD (k).toNat 0).toNat (p.au.getD (k).toNat 0) (p3.add (p.au.getD (k).toNat 0).toNat) kr kr hp3 om oz nO)<|SL.done<|TL.stRow1 (Value.int .i64) (dO _) S10 1 cl 3 p3 (p.au.getD (k).toNat 0).toNat (xs.getD (k).toNat 0) rfl kr hp3 oz kr ?_
  intro w11 S11
  replace S11:Sep w [box b4 (mxC (List.replicate 16 (0:Int)) [.slice ra1 cs.length rc1]) 44,ak aA ra1 rc1 3 1 (cl.set (p.au.getD (k).toNat 0).toNat (xs.getD (k).toNat 0)),box b3 (mxC (List.replicate 16 (0:Int)) [.slice none 0 0]) 44,box b2 (mxC rs [.slice la n c]) 44,box b1 (aO p) 28] w11:=S11
  exact TL.done kr<|J.wi 3 [] [] [] 51 (k+1)<|J.t 3 (ih1 _ (show((p.aq:Int)-(k+1)).toNat<mm1 from by omega) (cl.set (p.au.getD (k).toNat 0).toNat (xs.getD (k).toNat 0)) (k+1) w11 om om (by rw[show(k+1).toNat=k.toNat+1 by omega,inC,← hcl2]) S11 rfl)
  refine J.lb 6 [false] [] [] S9 4 rfl 53 (.slice p.cD p.bl p.dd) ?_
  have L14_2:∀ (mm_:Nat) (rl:List Int) (cl:List Int) (k:Int) (w12:World),(0≤k)→(k≤(p.bl:Int))→(rl=(rnF p zR (inC p cs xs p.aq) (k).toNat).1)→(cl=(rnF p zR (inC p cs xs p.aq) (k).toNat).2)→(rnE p zR (inC p cs xs p.aq) (k).toNat=0)→Sep w [box b4 (mxC rl [.slice ra1 cs.length rc1]) 44,ak aA ra1 rc1 3 1 cl,box b3 (mxC (List.replicate 16 (0:Int)) [.slice none 0 0]) 44,box b2 (mxC rs [.slice la n c]) 44,box b1 (aO p) 28] w12→((p.bl:Int)-k).toNat=mm_→J prog 14 85 R K14_1 [(55,iv k),(54,iv (p.bl:Int)),(53,.slice p.cD p.bl p.dd),(9,pv b4),(6,pv b3),(3,pv b1)] w12:=by
   intro mm2
   induction mm2 using Nat.strongRecOn with
   | _ mm2 ih2 =>
   intro rl cl k w12 k0 k1 hrl hcl2 he S12 hm2
   have hrn:rl.length=16:=by rw[hrl,(rnF_len _ _ _ _).1];rfl
   have hcn:cl.length=n:=by rw[hcl2,(rnF_len _ _ _ _).2,inC_len];exact hcl
   refine J.c 5 [] [] [] 56 (k<(p.bl:Int)) (fun fk4=>?_) fun fk4=>?_
   refine J.r 6 [true] [] [] ?_
   obtain ⟨p4,hp4,hc3⟩:=q2.at bq (k).toNat om
   have hel2:=aP q3 bq (n:=(k).toNat) (by have:=q2.len_eq;omega)
   obtain ⟨q26,q27,q28,q29,q30,_⟩:=id hel2
   refine J.ok (OK.index 57 22 5 p.cD p4 p.bl (k).toNat k (p4.add ((k).toNat*5)) kr kr hp4 om om rfl)<|J.ok (OK.ldCells 58 64 (p4.add ((k).toNat*5)) (aZ (p.aB.getD (k).toNat bq)) kr kr kr (fun j_ v_ hj_=>S12.cell (hc3 j_ v_ hj_)))<|J.nw 0 [] [] [] S12 13 [iv 0,iv 0,iv 0,iv 0,iv 0] 64 fun b5 w13 S13=>J.sb 0 [] [] [] S13 0 rfl (aZ (p.aB.getD (k).toNat bq)) rfl fun w14 S14=>J.lb 3 [] [] [] S14 5 rfl 59 (.agg (dq p))<|J.lb 0 [] [] [] S14 0 rfl 60 (.agg (dP (p.aB.getD (k).toNat bq))) ?_
   have S15:=S14.front 2 rfl
   have S16:Sep w [box b4 (mxC rl [.slice ra1 cs.length rc1]) 44,ak aA ra1 rc1 3 1 cl,box b5 (aZ (p.aB.getD (k).toNat bq)) 64,box b3 (mxC (List.replicate 16 (0:Int)) [.slice none 0 0]) 44,box b2 (mxC rs [.slice la n c]) 44,box b1 (aO p) 28] w14:=S15.front 2 rfl
   refine J.callF 61 29 #[.agg (dq p),pv b4,.agg (dP (p.aB.getD (k).toNat bq))] hb29 kr (execute_any p (p.aB.getD (k).toNat bq) b4 rl ra1 cs.length rc1 cl _ _ _ S16 aS0 oz hp hel2 hv (by first | exact hf | exact hfi _ om) om) ?_
   rintro _ w15 ⟨rfl,S17⟩
   replace S17:Sep w [box b4 (mxC (exR p (p.aB.getD (k).toNat bq) rl cl) [.slice ra1 cs.length rc1]) 44,ak aA ra1 rc1 3 1 (exC (p.aB.getD (k).toNat bq) rl cl),box b5 (aZ (p.aB.getD (k).toNat bq)) 64,box b3 (mxC (List.replicate 16 (0:Int)) [.slice none 0 0]) 44,box b2 (mxC rs [.slice la n c]) 44,box b1 (aO p) 28] w15:=S17
   have S18:Sep w [box b5 (aZ (p.aB.getD (k).toNat bq)) 64,box b4 (mxC (exR p (p.aB.getD (k).toNat bq) rl cl) [.slice ra1 cs.length rc1]) 44,ak aA ra1 rc1 3 1 (exC (p.aB.getD (k).toNat bq) rl cl),box b3 (mxC (List.replicate 16 (0:Int)) [.slice none 0 0]) 44,box b2 (mxC rs [.slice la n c]) 44,box b1 (aO p) 28] w15:=S17.front 2 rfl
   have hxr:(exR p (p.aB.getD (k).toNat bq) rl cl).length=16:=(exR_len _ _ _ _).trans (by first | assumption | omega)
   have hxc:(exC (p.aB.getD (k).toNat bq) rl cl).length=cs.length:=(exC_len _ _ _).trans (by first | assumption | omega)
   refine J.cn 7 [] [(14,iv (exE p (p.aB.getD (k).toNat bq) rl))] [] 63 ((exE p (p.aB.getD (k).toNat bq) rl)=0) (fun fk5=>?_) fun fk5=>?_
   exact J.wi 5 [false] [] [] 66 (k+1)<|J.t 3 (ih2 _ (show((p.bl:Int)-(k+1)).toNat<mm2 from by omega) (exR p (p.aB.getD (k).toNat bq) rl cl) (exC (p.aB.getD (k).toNat bq) rl cl) (k+1) w15 om om (by rw[show(k+1).toNat=k.toNat+1 by omega];exact(rn_step hrl hcl2).1) (by rw[show(k+1).toNat=k.toNat+1 by omega];exact(rn_step hrl hcl2).2) (by rw[show(k+1).toNat=k.toNat+1 by omega,rn_err hrl he];exact fk5) (S18.erase 0) rfl)
   refine J.r 5 [true] [(65,iv (exE p (p.aB.getD (k).toNat bq) rl)),(64,.agg #[iv 0,iv 0,iv 0,iv 0,iv 0,iv 0,iv 0,iv 0,iv 0,iv 0,iv 0,iv 0,iv 0,iv 0,iv 0,iv 0,.slice none 0 0])] []<|J.stM S18 3 rfl 16 (List.replicate 16 (0:Int)) [.slice none 0 0] rfl rfl rfl fun w16 S19=>J.r 3 [] [(8,iv (exE p (p.aB.getD (k).toNat bq) rl)),(7,.slice none 0 0)] []<|J.ret Tryz.f14 [.agg (mxA (List.replicate 16 (0:Int)) [.slice none 0 0]),.slice none 0 0,iv (exE p (p.aB.getD (k).toNat bq) rl)] func14 ⟨⟨⟨b3,0,none⟩,kr,aS (S19.nth 3 rfl) (eJ (n:=16) kr kr rfl)⟩,kr,kr,trivial⟩<|hR _ _ ?_
   have e0:rgE p n cs xs=exE p (p.aB.getD (k).toNat bq) rl:=(rg_in hv hgn om).trans (rn_fin hrl he rfl fk5 om)
   obtain ⟨e1,e2,e3⟩:=run_bad e0 om
   exact⟨none,0,none,0,by rw[e0,e1,e2,e3];rfl,by rw[e2,e3];exact(S19.nil.nilRow 3 1).nilRow 3 1⟩
   refine J.lb 10 [false] [(15,.slice none 0 0)] [] S12 4 rfl 68 (.slice p.bt p.aL p.bv) ?_
   have S20:Sep w [ak aA none 0 3 1 ([]),box b4 (mxC rl [.slice ra1 cs.length rc1]) 44,ak aA ra1 rc1 3 1 cl,box b3 (mxC (List.replicate 16 (0:Int)) [.slice none 0 0]) 44,box b2 (mxC rs [.slice la n c]) 44,box b1 (aO p) 28] w12:=S12.nilRow 3 1
   have L14_3:∀ (mm_:Nat) (ol:List Int) (oa:Option Addr) (oc:Nat) (k2:Int) (w17:World),(0≤k2)→(k2≤(p.aL:Int))→(ol=outC p cl (k2).toNat)→Sep w [ak aA oa oc 3 1 ol,box b4 (mxC rl [.slice ra1 cs.length rc1]) 44,ak aA ra1 rc1 3 1 cl,box b3 (mxC (List.replicate 16 (0:Int)) [.slice none 0 0]) 44,box b2 (mxC rs [.slice la n c]) 44,box b1 (aO p) 28] w17→((p.aL:Int)-k2).toNat=mm_→J prog 14 85 R K14_2 [(70,iv k2),(69,iv (p.aL:Int)),(68,.slice p.bt p.aL p.bv),(15,.slice oa ol.length oc),(9,pv b4),(6,pv b3)] w17:=by
    intro mm3
    induction mm3 using Nat.strongRecOn with
    | _ mm3 ih3 =>
    intro ol oa oc k2 w17 j0 j1 hol S21 hm3
    have hon:ol.length=k2.toNat:=by rw[hol];exact outC_len om
    have hok:k2<(p.aL:Int)→_:=fun h_=>hou k2.toNat om
    refine J.c 5 [] [] [] 71 (k2<(p.aL:Int)) (fun fk6=>?_) fun fk6=>?_
    refine J.r 6 [true] [] [] ?_
    obtain ⟨p5,hp5,hc4⟩:=q21.at 0 (k2).toNat om
    have hel3:=aP q22 0 (n:=(k2).toNat) (by have:=q21.len_eq;omega)
    refine J.ok (OK.index 72 26 1 p.bt p5 p.aL (k2).toNat k2 (p5.add (k2).toNat) kr kr hp5 om om nO)<|J.ok (OK.ldCell 73 3 (p5.add (k2).toNat) (iv (p.aM.getD (k2).toNat 0)) kr kr (S21.cell hc4))<|J.r 5 [] [(75,.pointer (some ⟨b4,16,none⟩)),(74,.slice oa ol.length oc),(17,iv (p.aM.getD (k2).toNat 0))] []<|J.ok (OK.ldMt S21 1 rfl 76 26 16 aS0)<|J.r 1 [] [(77,iv (p.aM.getD (k2).toNat 0))] [] ?_
    obtain ⟨p6,hp6⟩:=bK (S21.nth 2 rfl) (show 0<(cl).length by first | omega | (simp;omega))
    refine J.ok (OK.index 78 26 1 ra1 p6 cs.length (p.aM.getD (k2).toNat 0).toNat (p.aM.getD (k2).toNat 0) (p6.add (p.aM.getD (k2).toNat 0).toNat) kr kr hp6 om oz nO)<|J.ok (OK.ldCell 79 3 (p6.add (p.aM.getD (k2).toNat 0).toNat) (iv (cl.getD (p.aM.getD (k2).toNat 0).toNat 0)) kr kr (ct (g:=(Value.int .i64)) S21 2 rfl hp6 0 (p.aM.getD (k2).toNat 0).toNat oz))<|J.newSlice S21 80 1 [iv (cl.getD (p.aM.getD (k2).toNat 0).toNat 0)] 3 kr ?_
    intro b6 w18 S22
    refine J.append aA S22 1 ol (cl.getD (p.aM.getD (k2).toNat 0).toNat 0) 81 26 (iv 0) 8 ⟨b6,0,none⟩ 1 rfl kr kr kr kr dE (cE (S22.nth 0 rfl)) kr kr (⟨om,om⟩) ?_
    intro ra2 rc2 w19 S23
    replace S23:Sep w [box b6 [iv (cl.getD (p.aM.getD (k2).toNat 0).toNat 0)] 3,ak aA ra2 rc2 3 1 (ol++[cl.getD (p.aM.getD (k2).toNat 0).toNat 0]),box b4 (mxC rl [.slice ra1 cs.length rc1]) 44,ak aA ra1 rc1 3 1 cl,box b3 (mxC (List.replicate 16 (0:Int)) [.slice none 0 0]) 44,box b2 (mxC rs [.slice la n c]) 44,box b1 (aO p) 28] w19:=S23
    exact J.wi 5 [] [(15,.slice ra2 ((ol++[cl.getD (p.aM.getD (k2).toNat 0).toNat 0]).length) rc2)] [] 82 (k2+1)<|J.t 3 (ih3 _ (show((p.aL:Int)-(k2+1)).toNat<mm3 from by omega) (ol++[cl.getD (p.aM.getD (k2).toNat 0).toNat 0]) ra2 rc2 (k2+1) w19 om om (by rw[show(k2+1).toNat=k2.toNat+1 by omega,outC_succ om,← hol]) (S23.erase 0) rfl)
    refine J.r 4 [false] [] []<|J.ok (OK.ldM S21 1 rfl 83 44 16 aS0)<|J.r 1 [] [(84,.slice oa ol.length oc)] []<|J.stM S21 3 rfl 16 rl [.slice ra1 cs.length rc1] rfl rfl aS0 fun w20 S24=>J.r 3 [] [(8,iv 0),(7,.slice oa ol.length oc)] []<|J.ret Tryz.f14 [.agg (mxA rl [.slice ra1 cs.length rc1]),.slice oa ol.length oc,iv 0] func14 ⟨⟨⟨b3,0,none⟩,kr,aS (S24.nth 3 rfl) (eJ (n:=16) kr kr aS0)⟩,kr,kr,trivial⟩<|hR _ _ ?_
    have e4:rgE p n cs xs=0:=(rg_in hv hgn om).trans (by rw[show p.bl=k.toNat by omega];exact he)
    obtain ⟨e1,e2,e3⟩:=run_ok e4
    have e5:rgS p cs xs=(rl,cl):=by unfold rgS;rw[show p.bl=k.toNat by omega,hrl,hcl2]
    have e6:outC p cl p.aL=ol:=by rw[hol,show p.aL=k2.toNat by omega]
    rw[e5] at e1 e2 e3
    rw[e6] at e3
    exact⟨_,_,_,_,by rw[e1,e2,e3,e4,hcn,← hcl];rfl,by rw[e2,e3];exact S24.two 0 2 rfl rfl dE⟩
   exact J.t 5 (L14_3 _ ([]) none 0 0 w12 om om (rfl) S20 rfl)
  exact J.t 5 (L14_2 _ (List.replicate 16 (0:Int)) cl 0 w9 om om (rfl) (hcl2.trans (by rw[show k.toNat=p.aq by omega];rfl)) (rfl) S9 rfl)
 exact J.t 5 (L14_1 _ cs 0 w8 om om (rfl) S8 rfl)
 refine J.r 4 [true] [(30,.agg #[iv 0,iv 0,iv 0,iv 0,iv 0,iv 0,iv 0,iv 0,iv 0,iv 0,iv 0,iv 0,iv 0,iv 0,iv 0,iv 0,.slice none 0 0])] []<|J.stM S4 0 rfl 16 (List.replicate 16 (0:Int)) [.slice none 0 0] rfl rfl rfl fun w21 S25=>J.r 3 [] [(8,iv 1),(7,.slice none 0 0)] []<|J.ret Tryz.f14 [.agg (mxA (List.replicate 16 (0:Int)) [.slice none 0 0]),.slice none 0 0,iv 1] func14 ⟨⟨⟨b3,0,none⟩,kr,aS (S25.nth 0 rfl) (eJ (n:=16) kr kr rfl)⟩,kr,kr,trivial⟩<|hR _ _ ?_
 have e0:rgE p n cs xs=1:=rg_out (.inr om)
 obtain ⟨e1,e2,e3⟩:=run_bad e0 om
 exact⟨none,0,none,0,by rw[e0,e1,e2,e3];rfl,by rw[e2,e3];exact(S25.nil.nilRow 3 1).nilRow 3 1⟩
 refine J.r 12 [true] [(30,.agg #[iv 0,iv 0,iv 0,iv 0,iv 0,iv 0,iv 0,iv 0,iv 0,iv 0,iv 0,iv 0,iv 0,iv 0,iv 0,iv 0,.slice none 0 0])] []<|J.stM S4 0 rfl 16 (List.replicate 16 (0:Int)) [.slice none 0 0] rfl rfl rfl fun w22 S26=>J.r 3 [] [(8,iv 1),(7,.slice none 0 0)] []<|J.ret Tryz.f14 [.agg (mxA (List.replicate 16 (0:Int)) [.slice none 0 0]),.slice none 0 0,iv 1] func14 ⟨⟨⟨b3,0,none⟩,kr,aS (S26.nth 0 rfl) (eJ (n:=16) kr kr rfl)⟩,kr,kr,trivial⟩<|hR _ _ ?_
 have e0:rgE p n cs xs=1:=rg_out (.inl fk1)
 obtain ⟨e1,e2,e3⟩:=run_bad e0 om
 exact⟨none,0,none,0,by rw[e0,e1,e2,e3];rfl,by rw[e2,e3];exact(S26.nil.nilRow 3 1).nilRow 3 1⟩
end
end Go.Proofs.YtaoolgcddapegaaGreat
