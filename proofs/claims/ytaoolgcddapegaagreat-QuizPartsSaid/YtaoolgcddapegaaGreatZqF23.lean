/- Walks of functions of this seat, printed by a program over the engine. Conditions: as each theorem says. -/
import Derived.Test.YtaoolgcddapegaaGreatZqX22
import Derived.Test.YtaoolgcddapegaaGreatZqEng19
set_option linter.unusedSimpArgs false
set_option linter.unusedVariables false
namespace Go.Proofs.YtaoolgcddapegaaGreat
open Go.Eng Go.RowKit Go.Proofs.Tryz
set_option maxRecDepth 20000
set_option maxHeartbeats 20000000
def hiW (x:Int):Int:=x/18446744073709551616%18446744073709551616
def loW (x:Int):Int:=x%18446744073709551616
abbrev wvA (x:Int):Array Value:=#[Value.int .u64 (hiW x),Value.int .u64 (loW x)]
abbrev wvL (x:Int):List Value:=[Value.int .u64 (hiW x),Value.int .u64 (loW x)]
abbrev exA (n d:Int):Array Value:=#[Value.int .u64 (hiW n),Value.int .u64 (loW n),Value.int .u64 (hiW d),Value.int .u64 (loW d)]
abbrev exL (n d:Int):List Value:=[Value.int .u64 (hiW n),Value.int .u64 (loW n),Value.int .u64 (hiW d),Value.int .u64 (loW d)]
theorem W_bd (x:Int):(0≤hiW x∧hiW x≤18446744073709551615)∧0≤loW x∧loW x≤18446744073709551615:=by unfold hiW loW;omega
theorem W_def (x:Int):hiW x=x/18446744073709551616%18446744073709551616∧loW x=x%18446744073709551616:=⟨rfl,rfl⟩
theorem wrapM (n:Int):IntKind.wrap .u64 n=n%18446744073709551616:=by simp[IntKind.wrap,IntKind.bits,IntKind.signed]
theorem wd_eq {a b x:Int} (h1:a=hiW x) (h2:b=loW x):tup [.agg #[.int .u64 a,.int .u64 b]]=.agg (wvA x):=by subst h1;subst h2;rfl
theorem wd_q {a b x:Int} (h1:a=hiW x) (h2:b=loW x):Value.agg #[.int .u64 a,.int .u64 b]=.agg (wvA x):=by subst h1;subst h2;rfl
theorem xor_max {v:Int} (h:0≤v∧v≤18446744073709551615):IntKind.wrap .u64 ((BitVec.ofInt 64 (18446744073709551615:Int) ^^^ (BitVec.ofInt 64 v)).toNat:Int)=18446744073709551615-v:=by
  have e:(BitVec.ofInt 64 (18446744073709551615:Int))=BitVec.allOnes 64:=by decide
  rw[e,BitVec.allOnes_xor,BitVec.toNat_not,BitVec.toNat_ofInt,IntWalk.u64_in _ om]
  omega
theorem nat_top {b:Nat} (h:b<2^63):b ^^^ 2^63=2^63+b:=by
  apply Nat.eq_of_testBit_eq
  intro j
  rw[Nat.testBit_xor,Nat.testBit_two_pow]
  rcases Nat.lt_trichotomy j 63 with hj | hj | hj
  · rw[Nat.testBit_two_pow_add_gt hj,decide_eq_false om,Bool.xor_false]
  · subst hj;rw[Nat.testBit_two_pow_add_eq,decide_eq_true rfl,Bool.xor_true]
  · have h1:(2:Nat)^64≤2^j:=Nat.pow_le_pow_right om hj
    rw[Nat.testBit_lt_two_pow om,Nat.testBit_lt_two_pow (x:=2^63+b) om,decide_eq_false om];rfl
theorem xor_top {v:Int} (h:0≤v∧v≤18446744073709551615):IntKind.wrap .u64 ((BitVec.ofInt 64 v ^^^ (BitVec.ofInt 64 (9223372036854775808:Int))).toNat:Int)=(v+9223372036854775808)%18446744073709551616:=by
  have e:((BitVec.ofInt 64 (9223372036854775808:Int))).toNat=2^63:=by decide
  rw[BitVec.toNat_xor,e,BitVec.toNat_ofInt]
  have e2:(v%((2^64:Nat):Int)).toNat=v.toNat:=by omega
  rw[e2]
  by_cases hv:v.toNat<2^63
  · rw[nat_top hv,IntWalk.u64_in _ om];omega
  · obtain ⟨b,hb⟩:∃ b,v.toNat=2^63+b:=⟨v.toNat-2^63,om⟩
    rw[hb,← nat_top (b:=b) om,Nat.xor_assoc,Nat.xor_self,Nat.xor_zero,IntWalk.u64_in _ om]
    omega
theorem w_add (x y:Int):(hiW x+hiW y+(loW x+loW y)/18446744073709551616)%18446744073709551616=hiW (x+y)∧(loW x+loW y)%18446744073709551616=loW (x+y):=by unfold hiW loW;omega
theorem w_neg (x:Int):(18446744073709551615-hiW x+(18446744073709551615-loW x+1)/18446744073709551616)%18446744073709551616=hiW (-x)∧(18446744073709551615-loW x+1)%18446744073709551616=loW (-x):=by unfold hiW loW;omega
abbrev okW (x:Int):Prop:= -170141183460469231731687303715884105728≤x∧x<170141183460469231731687303715884105728
theorem w_sign {x:Int} (h:okW x):hiW x/9223372036854775808=(if x<0 then 1 else 0):=by unfold hiW;split<;>omega
theorem w_le {x y:Int} (hx:okW x) (hy:okW y):((hiW x+9223372036854775808)%18446744073709551616<(hiW y+9223372036854775808)%18446744073709551616→x<y)∧((hiW y+9223372036854775808)%18446744073709551616<(hiW x+9223372036854775808)%18446744073709551616→y<x)∧((hiW x+9223372036854775808)%18446744073709551616=(hiW y+9223372036854775808)%18446744073709551616→(loW x≤loW y↔x≤y)):=by unfold hiW loW;omega
theorem w_mul (x m:Int):(loW x*m/18446744073709551616+hiW x*m)%18446744073709551616=hiW (x*m)∧loW x*m%18446744073709551616=loW (x*m):=by
  have hx:x=(x/18446744073709551616)*18446744073709551616+loW x:=by unfold loW;omega
  obtain ⟨q,hq⟩:∃ q,q=x/18446744073709551616:=⟨_,rfl⟩
  obtain ⟨r,hr⟩:∃ r,r=loW x:=⟨_,rfl⟩
  have hh:hiW x=q%18446744073709551616:=by rw[hq];rfl
  rw[← hr,hh]
  rw[← hq,← hr] at hx
  subst hx
  have e:(q*18446744073709551616+r)*m=r*m+q*m*18446744073709551616:=by rw[Int.add_mul,Int.mul_right_comm,Int.add_comm]
  unfold hiW loW
  rw[e,Int.add_mul_ediv_right _ _ dE,Int.add_mul_emod_self_right]
  refine⟨?_,rfl⟩
  rw[Int.add_emod,Int.mul_emod,Int.emod_emod,← Int.mul_emod,← Int.add_emod]
theorem w_negb {x:Int} (h:okW x):(hiW x/9223372036854775808==1)=decide (x<0):=by
  rw[w_sign h];by_cases e:x<0
  · rw[if_pos e,decide_eq_true e];rfl
  · rw[if_neg e,decide_eq_false e];rfl
theorem loW_id {n:Int} (h:0≤n∧n<18446744073709551616):loW n=n:=by unfold loW;omega
def cmpI (a b:Int):Int:=if a<b then -1 else if a>b then 1 else 0
theorem cmp_facts (a b:Int):a<b∧cmpI a b= -1∨a=b∧cmpI a b=0∨a>b∧cmpI a b=1:=by unfold cmpI;split<;>(try split)<;>omega

abbrev vlA (x:Fxd) (r:Int):Array Value:=#[Value.int .i64 x.aK,.bool x.dQ,Value.int .i64 x.aT,Value.int .i64 x.aF,Value.int .i64 x.aa,Value.int .i64 x.ah,Value.int .i64 x.ae,Value.int .i64 x.ag,Value.int .i64 x.aj,Value.int .i64 x.ai,Value.int .i64 r]
abbrev vlL (x:Fxd) (r:Int):List Value:=[Value.int .i64 x.aK,.bool x.dQ,Value.int .i64 x.aT,Value.int .i64 x.aF,Value.int .i64 x.aa,Value.int .i64 x.ah,Value.int .i64 x.ae,Value.int .i64 x.ag,Value.int .i64 x.aj,Value.int .i64 x.ai,Value.int .i64 r]
theorem hb141:af prog 141:=fun _ _=>by kernel_rfl

theorem dY (n:Int) (w:World) (hn: -9223372036854775808≤n∧n≤9223372036854775807):Ret prog 141 #[iv n] w (fun v w'=>v=.agg (wvA (n))∧Sep w [] w'):=by
 refine Ret.st (N:=11) func141 fun R hR S0=>J.nw 2 [] [] [] S0 2 [.int .u64 0,.int .u64 0] 162 fun b1 w1 S1=>J.c 7 [] [] [] 4 (n<0) (fun fk1=>?_) fun fk1=>?_
 refine J.h 5 [true] [] [] 6 (.int .u64 (IntKind.wrap .u64 n)) (.int .u64 (loW n)) (congrArg (Value.int .u64) (wrapM _))<|J.sb 1 [] [] [] S1 0 rfl [.int .u64 18446744073709551615,.int .u64 (loW n)] rfl fun w2 S2=>J.ez 1 [.agg #[.int .u64 18446744073709551615,.int .u64 (loW n)]] func141 (bk (S2.nth 0 rfl) bn) (hR _ _ ?_)
 exact⟨wd_eq (by unfold hiW;omega) (rfl),S2.nil⟩
 refine J.h 6 [false] [] [] 9 (.int .u64 (IntKind.wrap .u64 n)) (.int .u64 (loW n)) (congrArg (Value.int .u64) (wrapM _))<|J.sb 1 [] [] [] S1 0 rfl [.int .u64 0,.int .u64 (loW n)] rfl fun w3 S3=>J.ez 1 [.agg #[.int .u64 0,.int .u64 (loW n)]] func141 (bk (S3.nth 0 rfl) bn) (hR _ _ ?_)
 exact⟨wd_eq (by unfold hiW;omega) (rfl),S3.nil⟩

theorem hb164:af prog 164:=fun _ _=>by kernel_rfl

theorem wneg_any (x:Int) (w:World) (hx:okW x):Ret prog 164 #[.agg (wvA x)] w (fun v w'=>v=.bool (decide (x<0))∧Sep w [] w'):=by
 refine Ret.st (N:=7) func164 fun R hR S0=>J.nw 2 [] [] [] S0 1 (wvL x) 162 fun b1 w1 S1=>J.lb 5 [] [] [] S1 0 rfl 4 (.int .u64 (hiW x))<|J.h 1 [] [] [] 5 (.int .u64 (Int.fdiv (hiW x) (2^63))) (.int .u64 ((hiW x)/9223372036854775808)) (congrArg (Value.int .u64) (dl _ _ dE))<|J.e 3 [.bool (((hiW x)/9223372036854775808)==1)] func164 (hR _ _ ?_)
 exact⟨congrArg Value.bool (w_negb hx),S1.nil⟩

theorem hb165:af prog 165:=fun _ _=>by kernel_rfl

theorem wminus_any (x:Int) (w:World):Ret prog 165 #[.agg (wvA x)] w (fun v w'=>v=.agg (wvA (-x))∧Sep w [] w'):=by
 refine Ret.st (N:=19) func165 fun R hR S0=>?_
 have hwbx:=W_bd x
 refine J.nw 2 [] [] [] S0 1 (wvL x) 162 fun b1 w1 S1=>J.nw 0 [] [] [] S1 2 [.int .u64 0,.int .u64 0] 162 fun b2 w2 S2=>J.lb 4 [] [] [] S2 1 rfl 7 (.int .u64 (loW x))<|J.h 1 [] [] [] 8 (.int .u64 (IntKind.wrap .u64 ((BitVec.ofInt 64 (18446744073709551615:Int) ^^^ (BitVec.ofInt 64 (loW x))).toNat:Int))) (.int .u64 (18446744073709551615-(loW x))) (congrArg (Value.int .u64) (xor_max om))<|J.ok (OK.add64 9 173 (18446744073709551615-(loW x)) 1 0 func173 kr kr kr kr kr ⟨om,om,om,om⟩)<|J.lb 9 [] [(4,.int .u64 (((18446744073709551615-(loW x))+1+0)/18446744073709551616)),(3,.int .u64 (((18446744073709551615-(loW x))+1+0)%18446744073709551616))] [] S2 1 rfl 13 (.int .u64 (hiW x))<|J.h 1 [] [] [] 14 (.int .u64 (IntKind.wrap .u64 ((BitVec.ofInt 64 (18446744073709551615:Int) ^^^ (BitVec.ofInt 64 (hiW x))).toNat:Int))) (.int .u64 (18446744073709551615-(hiW x))) (congrArg (Value.int .u64) (xor_max om))<|J.h 2 [] [] [] 16 (.int .u64 (IntKind.wrap .u64 ((18446744073709551615-(hiW x))+(((18446744073709551615-(loW x))+1+0)/18446744073709551616)))) (.int .u64 (((18446744073709551615-(hiW x))+(((18446744073709551615-(loW x))+1+0)/18446744073709551616))%18446744073709551616)) (congrArg (Value.int .u64) (wrapM _))<|J.sb 2 [] [] [] S2 0 rfl [.int .u64 (((18446744073709551615-(hiW x))+(((18446744073709551615-(loW x))+1+0)/18446744073709551616))%18446744073709551616),.int .u64 (((18446744073709551615-(loW x))+1+0)%18446744073709551616)] rfl fun w3 S3=>J.ez 1 [.agg #[.int .u64 (((18446744073709551615-(hiW x))+(((18446744073709551615-(loW x))+1+0)/18446744073709551616))%18446744073709551616),.int .u64 (((18446744073709551615-(loW x))+1+0)%18446744073709551616)]] func165 (bk (S3.nth 0 rfl) bn) (hR _ _ ?_)
 exact⟨wd_eq (by have:=w_neg x;omega) (by have:=w_neg x;omega),S3.nil⟩

theorem hb172:af prog 172:=fun _ _=>by kernel_rfl

theorem wadd_any (x y:Int) (w:World):Ret prog 172 #[.agg (wvA x),.agg (wvA y)] w (fun v w'=>v=.agg (wvA (x+y))∧Sep w [] w'):=by
 refine Ret.st (N:=29) func172 fun R hR S0=>?_
 have hwbx:=W_bd x
 have hwby:=W_bd y
 refine J.nw 2 [] [] [] S0 2 (wvL x) 162 fun b1 w1 S1=>J.nw 0 [] [] [] S1 3 (wvL y) 162 fun b2 w2 S2=>J.nw 0 [] [] [] S2 4 [.int .u64 0,.int .u64 0] 162 fun b3 w3 S3=>J.lb 4 [] [] [] S3 2 rfl 11 (.int .u64 (loW x))<|J.lb 1 [] [] [] S3 1 rfl 13 (.int .u64 (loW y))<|J.ok (OK.add64 14 173 (loW x) (loW y) 0 func173 kr kr kr kr kr ⟨om,om,om,om⟩)<|J.lb 9 [] [(6,.int .u64 (((loW x)+(loW y)+0)/18446744073709551616)),(5,.int .u64 (((loW x)+(loW y)+0)%18446744073709551616))] [] S3 2 rfl 19 (.int .u64 (hiW x))<|J.lb 1 [] [] [] S3 1 rfl 21 (.int .u64 (hiW y))<|J.r 1 [] [(22,.int .u64 (((loW x)+(loW y)+0)/18446744073709551616))] []<|J.ok (OK.add64 23 173 (hiW x) (hiW y) (((loW x)+(loW y)+0)/18446744073709551616) func173 kr kr kr kr kr ⟨om,om,om,om⟩)<|J.sb 11 [] [] [] S3 0 rfl [.int .u64 (((hiW x)+(hiW y)+(((loW x)+(loW y)+0)/18446744073709551616))%18446744073709551616),.int .u64 (((loW x)+(loW y)+0)%18446744073709551616)] rfl fun w4 S4=>?_
 refine J.ez 1 [.agg #[.int .u64 (((hiW x)+(hiW y)+(((loW x)+(loW y)+0)/18446744073709551616))%18446744073709551616),.int .u64 (((loW x)+(loW y)+0)%18446744073709551616)]] func172 (bk (S4.nth 0 rfl) bn) (hR _ _ ?_)
 exact⟨wd_eq (by have:=w_add x y;omega) (by have:=w_add x y;omega),S4.nil⟩

theorem eu:af prog 142:=fun _ _=>by kernel_rfl

theorem bG (x n:Int) (w:World) (hx:okW x) (hn: -9223372036854775808≤n∧n≤9223372036854775807):Ret prog 142 #[.agg (wvA x),iv n] w (fun v w'=>v=.agg (wvA (x*n))∧Sep w [] w'):=by
 refine Ret.st (N:=44) func142 fun R hR S0=>?_
 have hwbx:=W_bd x
 have hwy:=W_bd (-x)
 have hwn:=W_bd n
 have hwd:=W_def n
 refine J.nw 2 [] [] [] S0 2 (wvL x) 162 fun b1 w1 S1=>J.nw 0 [] [] [] S1 4 [.int .u64 0,.int .u64 0] 162 fun b2 w2 S2=>J.lb 3 [] [] [] S2 1 rfl 10 (.agg (wvA x))<|J.c0 0 [] [] [] S2 11 hb164 (wneg_any x _ cO) fun w3 S3=>J.lb 8 [] [(5,.bool (!((decide (x<0))==(decide (n<0)))))] [] S3 1 rfl 15 (.agg (wvA x))<|J.c0 0 [] [] [] S3 16 hb164 (wneg_any x _ cO) fun w4 S4=>J.c 1 [] [] [] 16 (x<0) (fun fk1=>?_) fun fk1=>?_
 refine J.lb 2 [true] [] [] S4 1 rfl 17 (.agg (wvA x))<|J.c0 0 [] [] [] S4 18 hb165 (wminus_any x _) fun w5 S5=>J.sb 0 [] [] [] S5 1 rfl (wvL (-x)) rfl fun w6 S6=>J.h 5 [] [] [] 20 (.int .u64 (IntKind.wrap .u64 n)) (.int .u64 (loW n)) (congrArg (Value.int .u64) (wrapM _))<|J.c 8 [] [(6,.int .u64 (loW n))] [] 22 (n<0) (fun fk2=>?_) fun fk2=>?_
 refine J.h 4 [true] [] [] 24 (.int .u64 (IntKind.wrap .u64 (0-(loW n)))) (.int .u64 (-n)) (congrArg (Value.int .u64) (by rw[wrapM];unfold loW;omega))<|J.lb 5 [] [(6,.int .u64 (-n))] [] S6 1 rfl 27 (.int .u64 (loW (-x)))<|J.c0 1 [] [] [] S6 29 hb166 (mul64_any (loW (-x)) (-n) _ om om) fun w7 S7=>J.lb 10 [] [(32,.int .u64 ((loW (-x))*(-n)/18446744073709551616)),(8,.int .u64 ((loW (-x))*(-n)%18446744073709551616))] [] S7 1 rfl 34 (.int .u64 (hiW (-x)))<|J.h 2 [] [] [] 36 (.int .u64 (IntKind.wrap .u64 ((hiW (-x))*(-n)))) (.int .u64 ((hiW (-x))*(-n)%18446744073709551616)) (congrArg (Value.int .u64) (wrapM _))<|J.h 1 [] [] [] 37 (.int .u64 (IntKind.wrap .u64 (((loW (-x))*(-n)/18446744073709551616)+((hiW (-x))*(-n)%18446744073709551616)))) (.int .u64 ((((loW (-x))*(-n)/18446744073709551616)+((hiW (-x))*(-n)%18446744073709551616))%18446744073709551616)) (congrArg (Value.int .u64) (wrapM _))<|J.h 2 [] [] [] 39 (.agg #[.int .u64 ((((loW (-x))*(-n)/18446744073709551616)+((hiW (-x))*(-n)%18446744073709551616))%18446744073709551616),.int .u64 ((loW (-x))*(-n)%18446744073709551616)]) (.agg (wvA ((-x)*(-n)))) (wd_q (by have:=w_mul (-x) (-n);omega) (by have:=w_mul (-x) (-n);omega))<|J.nw 0 [] [] [] S7 9 [.int .u64 0,.int .u64 0] 162 fun b3 w8 S8=>J.sb 0 [] [] [] S8 0 rfl (wvL ((-x)*(-n))) rfl fun w9 S9=>?_
 have fk4:(!((decide (x<0))==(decide (n<0))))=false:=by simp[fk1,fk2]
 refine J.h 6 [] [] [] 40 (.bool (!((decide (x<0))==(decide (n<0))))) (.bool false) (congrArg Value.bool fk4)<|J.lb 4 [false] [] [] S9 0 rfl 43 (.agg (wvA ((-x)*(-n))))<|J.sb 0 [] [] [] S9 1 rfl (wvL ((-x)*(-n))) rfl fun w10 S10=>J.ez 1 [.agg (wvA ((-x)*(-n)))] func142 (bk (S10.nth 1 rfl) bn) (hR _ _ ?_)
 have e:(-x)*(-n)=x*n:=by (try rw[loW_id (n:=n) om])<;>(try simp[Int.neg_mul,Int.mul_neg])
 rw[e]
 exact⟨rfl,S10.nil⟩
 refine J.lb 5 [false] [] [] S6 1 rfl 27 (.int .u64 (loW (-x)))<|J.c0 1 [] [] [] S6 29 hb166 (mul64_any (loW (-x)) (loW n) _ om om) fun w11 S11=>J.lb 10 [] [(32,.int .u64 ((loW (-x))*(loW n)/18446744073709551616)),(8,.int .u64 ((loW (-x))*(loW n)%18446744073709551616))] [] S11 1 rfl 34 (.int .u64 (hiW (-x)))<|J.h 2 [] [] [] 36 (.int .u64 (IntKind.wrap .u64 ((hiW (-x))*(loW n)))) (.int .u64 ((hiW (-x))*(loW n)%18446744073709551616)) (congrArg (Value.int .u64) (wrapM _))<|J.h 1 [] [] [] 37 (.int .u64 (IntKind.wrap .u64 (((loW (-x))*(loW n)/18446744073709551616)+((hiW (-x))*(loW n)%18446744073709551616)))) (.int .u64 ((((loW (-x))*(loW n)/18446744073709551616)+((hiW (-x))*(loW n)%18446744073709551616))%18446744073709551616)) (congrArg (Value.int .u64) (wrapM _))<|J.h 2 [] [] [] 39 (.agg #[.int .u64 ((((loW (-x))*(loW n)/18446744073709551616)+((hiW (-x))*(loW n)%18446744073709551616))%18446744073709551616),.int .u64 ((loW (-x))*(loW n)%18446744073709551616)]) (.agg (wvA ((-x)*(loW n)))) (wd_q (by have:=w_mul (-x) (loW n);omega) (by have:=w_mul (-x) (loW n);omega))<|J.nw 0 [] [] [] S11 9 [.int .u64 0,.int .u64 0] 162 fun b4 w12 S12=>J.sb 0 [] [] [] S12 0 rfl (wvL ((-x)*(loW n))) rfl fun w13 S13=>?_
 have fk6:(!((decide (x<0))==(decide (n<0))))=true:=by simp[fk1,fk2]
 refine J.h 6 [] [] [] 40 (.bool (!((decide (x<0))==(decide (n<0))))) (.bool true) (congrArg Value.bool fk6)<|J.lb 3 [true] [] [] S13 0 rfl 41 (.agg (wvA ((-x)*(loW n))))<|J.c0 0 [] [] [] S13 42 hb165 (wminus_any ((-x)*(loW n)) _) fun w14 S14=>J.sb 0 [] [] [] S14 1 rfl (wvL (-((-x)*(loW n)))) rfl fun w15 S15=>J.ez 1 [.agg (wvA (-((-x)*(loW n))))] func142 (bk (S15.nth 1 rfl) bn) (hR _ _ ?_)
 have e: -((-x)*(loW n))=x*n:=by (try rw[loW_id (n:=n) om])<;>(try simp[Int.neg_mul,Int.mul_neg])
 rw[e]
 exact⟨rfl,S15.nil⟩
 refine J.h 6 [false] [] [] 20 (.int .u64 (IntKind.wrap .u64 n)) (.int .u64 (loW n)) (congrArg (Value.int .u64) (wrapM _))<|J.c 8 [] [(6,.int .u64 (loW n))] [] 22 (n<0) (fun fk7=>?_) fun fk7=>?_
 refine J.h 4 [true] [] [] 24 (.int .u64 (IntKind.wrap .u64 (0-(loW n)))) (.int .u64 (-n)) (congrArg (Value.int .u64) (by rw[wrapM];unfold loW;omega))<|J.lb 5 [] [(6,.int .u64 (-n))] [] S4 1 rfl 27 (.int .u64 (loW x))<|J.c0 1 [] [] [] S4 29 hb166 (mul64_any (loW x) (-n) _ om om) fun w16 S16=>J.lb 10 [] [(32,.int .u64 ((loW x)*(-n)/18446744073709551616)),(8,.int .u64 ((loW x)*(-n)%18446744073709551616))] [] S16 1 rfl 34 (.int .u64 (hiW x))<|J.h 2 [] [] [] 36 (.int .u64 (IntKind.wrap .u64 ((hiW x)*(-n)))) (.int .u64 ((hiW x)*(-n)%18446744073709551616)) (congrArg (Value.int .u64) (wrapM _))<|J.h 1 [] [] [] 37 (.int .u64 (IntKind.wrap .u64 (((loW x)*(-n)/18446744073709551616)+((hiW x)*(-n)%18446744073709551616)))) (.int .u64 ((((loW x)*(-n)/18446744073709551616)+((hiW x)*(-n)%18446744073709551616))%18446744073709551616)) (congrArg (Value.int .u64) (wrapM _))<|J.h 2 [] [] [] 39 (.agg #[.int .u64 ((((loW x)*(-n)/18446744073709551616)+((hiW x)*(-n)%18446744073709551616))%18446744073709551616),.int .u64 ((loW x)*(-n)%18446744073709551616)]) (.agg (wvA (x*(-n)))) (wd_q (by have:=w_mul x (-n);omega) (by have:=w_mul x (-n);omega))<|J.nw 0 [] [] [] S16 9 [.int .u64 0,.int .u64 0] 162 fun b5 w17 S17=>J.sb 0 [] [] [] S17 0 rfl (wvL (x*(-n))) rfl fun w18 S18=>?_
 have fk9:(!((decide (x<0))==(decide (n<0))))=true:=by simp[fk1,fk7]
 refine J.h 6 [] [] [] 40 (.bool (!((decide (x<0))==(decide (n<0))))) (.bool true) (congrArg Value.bool fk9)<|J.lb 3 [true] [] [] S18 0 rfl 41 (.agg (wvA (x*(-n))))<|J.c0 0 [] [] [] S18 42 hb165 (wminus_any (x*(-n)) _) fun w19 S19=>J.sb 0 [] [] [] S19 1 rfl (wvL (-(x*(-n)))) rfl fun w20 S20=>J.ez 1 [.agg (wvA (-(x*(-n))))] func142 (bk (S20.nth 1 rfl) bn) (hR _ _ ?_)
 have e: -(x*(-n))=x*n:=by (try rw[loW_id (n:=n) om])<;>(try simp[Int.neg_mul,Int.mul_neg])
 rw[e]
 exact⟨rfl,S20.nil⟩
 refine J.lb 5 [false] [] [] S4 1 rfl 27 (.int .u64 (loW x))<|J.c0 1 [] [] [] S4 29 hb166 (mul64_any (loW x) (loW n) _ om om) fun w21 S21=>J.lb 10 [] [(32,.int .u64 ((loW x)*(loW n)/18446744073709551616)),(8,.int .u64 ((loW x)*(loW n)%18446744073709551616))] [] S21 1 rfl 34 (.int .u64 (hiW x))<|J.h 2 [] [] [] 36 (.int .u64 (IntKind.wrap .u64 ((hiW x)*(loW n)))) (.int .u64 ((hiW x)*(loW n)%18446744073709551616)) (congrArg (Value.int .u64) (wrapM _))<|J.h 1 [] [] [] 37 (.int .u64 (IntKind.wrap .u64 (((loW x)*(loW n)/18446744073709551616)+((hiW x)*(loW n)%18446744073709551616)))) (.int .u64 ((((loW x)*(loW n)/18446744073709551616)+((hiW x)*(loW n)%18446744073709551616))%18446744073709551616)) (congrArg (Value.int .u64) (wrapM _))<|J.h 2 [] [] [] 39 (.agg #[.int .u64 ((((loW x)*(loW n)/18446744073709551616)+((hiW x)*(loW n)%18446744073709551616))%18446744073709551616),.int .u64 ((loW x)*(loW n)%18446744073709551616)]) (.agg (wvA (x*(loW n)))) (wd_q (by have:=w_mul x (loW n);omega) (by have:=w_mul x (loW n);omega))<|J.nw 0 [] [] [] S21 9 [.int .u64 0,.int .u64 0] 162 fun b6 w22 S22=>J.sb 0 [] [] [] S22 0 rfl (wvL (x*(loW n))) rfl fun w23 S23=>?_
 have fk11:(!((decide (x<0))==(decide (n<0))))=false:=by simp[fk1,fk7]
 refine J.h 6 [] [] [] 40 (.bool (!((decide (x<0))==(decide (n<0))))) (.bool false) (congrArg Value.bool fk11)<|J.lb 4 [false] [] [] S23 0 rfl 43 (.agg (wvA (x*(loW n))))<|J.sb 0 [] [] [] S23 1 rfl (wvL (x*(loW n))) rfl fun w24 S24=>J.ez 1 [.agg (wvA (x*(loW n)))] func142 (bk (S24.nth 1 rfl) bn) (hR _ _ ?_)
 have e:x*(loW n)=x*n:=by (try rw[loW_id (n:=n) om])<;>(try simp[Int.neg_mul,Int.mul_neg])
 rw[e]
 exact⟨rfl,S24.nil⟩

theorem hb174:af prog 174:=fun _ _=>by kernel_rfl

theorem isnan_any (a:Int) (w:World):Ret prog 174 #[.int .u64 a] w (fun v w'=>v=.bool false∧Sep w [] w'):=by
 refine Ret.st (N:=6) func174 fun R hR S0=>J.h 9 [] [] [] 5 (.bool (a != a)) (.bool false) (congrArg Value.bool (by simp))<|J.e 2 [.bool false] func174 (hR _ _ ?_)
 exact⟨rfl,S0.nil⟩

theorem hb167:af prog 167:=fun _ _=>by kernel_rfl

theorem cmp_any (a b:Int) (w:World):Ret prog 167 #[.int .u64 a,.int .u64 b] w (fun v w'=>v=iv (cmpI a b)∧Sep w [] w'):=by
 refine Ret.st (N:=20) func167 fun R hR S0=>J.c0 7 [] [] [] S0 8 hb174 (isnan_any a _) fun w1 S1=>J.c0 5 [] [(5,.bool false)] [] S1 10 hb174 (isnan_any b _) fun w2 S2=>J.c 23 [false,false] [] [] 16 (a<b) (fun fk1=>?_) fun fk1=>?_
 refine J.e 5 [iv (-1)] func167 (hR _ _ ?_)
 exact⟨congrArg (Value.int .i64) (by have:=cmp_facts a b;omega),S2.nil⟩
 refine J.c 9 [false] [] [] 19 (a>b) (fun fk2=>?_) fun fk2=>?_
 refine J.e 5 [iv 1] func167 (hR _ _ ?_)
 exact⟨congrArg (Value.int .i64) (by have:=cmp_facts a b;omega),S2.nil⟩
 refine J.e 6 [iv 0] func167 (hR _ _ ?_)
 exact⟨congrArg (Value.int .i64) (by have:=cmp_facts a b;omega),S2.nil⟩

theorem hb143:af prog 143:=fun _ _=>by kernel_rfl

theorem watmost_any (x y:Int) (w:World) (hx:okW x) (hy:okW y):Ret prog 143 #[.agg (wvA x),.agg (wvA y)] w (fun v w'=>v=.bool (decide (x≤y))∧Sep w [] w'):=by
 refine Ret.st (N:=22) func143 fun R hR S0=>?_
 have hwbx:=W_bd x
 have hwby:=W_bd y
 have hle:=w_le hx hy
 refine J.nw 2 [] [] [] S0 2 (wvL x) 162 fun b1 w1 S1=>J.nw 0 [] [] [] S1 3 (wvL y) 162 fun b2 w2 S2=>J.lb 6 [] [] [] S2 1 rfl 7 (.int .u64 (hiW x))<|J.h 1 [] [] [] 8 (.int .u64 (IntKind.wrap .u64 ((BitVec.ofInt 64 (hiW x) ^^^ (BitVec.ofInt 64 (9223372036854775808:Int))).toNat:Int))) (.int .u64 (((hiW x)+9223372036854775808)%18446744073709551616)) (congrArg (Value.int .u64) (xor_top om))<|J.lb 1 [] [] [] S2 0 rfl 10 (.int .u64 (hiW y))<|J.h 1 [] [] [] 11 (.int .u64 (IntKind.wrap .u64 ((BitVec.ofInt 64 (hiW y) ^^^ (BitVec.ofInt 64 (9223372036854775808:Int))).toNat:Int))) (.int .u64 (((hiW y)+9223372036854775808)%18446744073709551616)) (congrArg (Value.int .u64) (xor_top om))<|J.c0 0 [] [] [] S2 12 hb167 (cmp_any (((hiW x)+9223372036854775808)%18446744073709551616) (((hiW y)+9223372036854775808)%18446744073709551616) _) fun w3 S3=>?_
 have hcm:=cmp_facts ((((hiW x)+9223372036854775808)%18446744073709551616)) ((((hiW y)+9223372036854775808)%18446744073709551616))
 refine J.cn 7 [] [(5,iv (cmpI (((hiW x)+9223372036854775808)%18446744073709551616) (((hiW y)+9223372036854775808)%18446744073709551616)))] [] 14 ((cmpI (((hiW x)+9223372036854775808)%18446744073709551616) (((hiW y)+9223372036854775808)%18446744073709551616))=0) (fun fk1=>?_) fun fk1=>?_
 refine J.lb 5 [false] [] [] S3 1 rfl 18 (.int .u64 (loW x))<|J.lb 1 [] [] [] S3 0 rfl 20 (.int .u64 (loW y))<|J.e 3 [.bool (decide ((loW x)≤(loW y)))] func143 (hR _ _ ?_)
 exact⟨congrArg Value.bool (decide_eq_decide.2 om),S3.nil⟩
 refine J.e 7 [.bool (decide ((cmpI (((hiW x)+9223372036854775808)%18446744073709551616) (((hiW y)+9223372036854775808)%18446744073709551616))<0))] func143 (hR _ _ ?_)
 exact⟨congrArg Value.bool (decide_eq_decide.2 om),S3.nil⟩

end Go.Proofs.YtaoolgcddapegaaGreat

namespace Go.Proofs.YtaoolgcddapegaaGreat
noncomputable section
open Go.Eng Go.RowKit Go.Proofs.Tryz
set_option maxRecDepth 20000
set_option maxHeartbeats 20000000
abbrev bC:List Value:=[iv 0,.bool false,iv 0,iv 0,iv 0,iv 0,iv 0,iv 0,iv 0,iv 0,iv 0]
abbrev cC:List Value:=[.int .u64 0,.int .u64 0,.int .u64 0,.int .u64 0]
def bN (t:Fxd):Int:=if bF t then (if t.dQ then -(2^(t.aK-1).toNat) else 0) else 0
def bR (t:Fxd):Int:=if bF t then (if t.dQ then 2^(t.aK-1).toNat-1 else 2^t.aK.toNat-1) else 0
theorem lim_bd (t:Fxd):(-2147483648≤bN t∧bN t≤0)∧0≤bR t∧bR t≤4294967295:=by
  unfold bN bR
  cases h:bF t with
  | false=>simp
  | true =>
    rw[if_pos rfl,if_pos rfl]
    obtain ⟨h1,_⟩:=ew.1 h
    rcases h1 with e | e | e<;>rw[e]<;>cases t.dQ<;>decide
theorem lim_shl {x y:Int} (hx: -1≤x∧x≤1) (hy:0≤y∧y≤32):IntKind.wrap .i64 (x*2^min y.toNat (IntKind.bits .i64))=x*2^y.toNat:=by
  have e:min y.toNat (IntKind.bits .i64)=y.toNat:=Nat.min_eq_left (show y.toNat≤64 by omega)
  rw[e]
  have h1:(1:Int)≤2^y.toNat:=by exact_mod_cast Nat.one_le_two_pow
  have h2:(2:Int)^y.toNat≤2^32:=by exact_mod_cast Nat.pow_le_pow_right om om
  have h3:x= -1∨x=0∨x=1:=by omega
  rcases h3 with rfl|rfl|rfl<;>exact IntWalk.i64_in _ om
theorem pow_bd {k:Nat} (h:k≤32):(1:Int)≤2^k∧(2:Int)^k≤4294967296:=by
  have h1:(1:Int)≤2^k:=by exact_mod_cast Nat.one_le_two_pow
  have h2:(2:Int)^k≤2^32:=by exact_mod_cast Nat.pow_le_pow_right om h
  exact⟨h1,h2⟩
theorem lim_no {t:Fxd} (h:bF t=false):bN t=0∧bR t=0:=by unfold bN bR;rw[h];exact⟨rfl,rfl⟩
theorem lim_s {t:Fxd} (h:bF t=true) (hs:t.dQ=true):bN t=(-1)*2^(t.aK-1).toNat∧bR t=1*2^(t.aK-1).toNat-1:=by unfold bN bR;rw[h,hs];simp
theorem lim_u {t:Fxd} (h:bF t=true) (hs:t.dQ=false):bN t=0∧bR t=1*2^t.aK.toNat-1:=by unfold bN bR;rw[h,hs];simp
def ab (t:Fxd) (x:Int):Int:=min (max x (bN t)) (bR t)
theorem bw (t:Fxd) (x:Int):bN t≤ab t x∧ab t x≤bR t:=by have:=lim_bd t;unfold ab;omega
def ac (t:Fxd) (r:Int):Int:=r*t.aT+t.aF
theorem mul_bd {x y:Int} {a b:Nat} (hx:x.natAbs≤a) (hy:y.natAbs≤b):(x*y).natAbs≤a*b:=by rw[Int.natAbs_mul];exact Nat.mul_le_mul hx hy
theorem cL {x y:Int} (a b:Nat) (hx:x.natAbs≤a) (hy:y.natAbs≤b): -((a*b:Nat):Int)≤x*y∧x*y≤((a*b:Nat):Int):=by have:=mul_bd hx hy;omega
theorem num_bd {t:Fxd} {r:Int} (h:bF t=true) (hr:bN t≤r∧r≤bR t):(-4503599627370496≤r*t.aT∧r*t.aT≤4503599627370496)∧ -4503600701112320≤ac t r∧ac t r≤4503600701112320:=by
  have:=lim_bd t
  obtain ⟨_,h2,h3,h4,_⟩:=ew.1 h
  have:=cL (x:=r) (y:=t.aT) 4294967296 1048576 om om
  unfold ac;omega
def qF (n d:Int) (t:Fxd):Int:=((n*t.aa+d*(0-t.aF))*2+d*t.aT)/(2*(d*t.aT))
def dk (n d:Int) (t:Fxd):Int:=ab t (qF n d t)
theorem res_bd (n d:Int) (t:Fxd):bN t≤dk n d t∧dk n d t≤bR t:=bw t _
theorem search_step {u tw m:Int} (hu:0<u):u*(2*m-1)≤tw↔m≤(tw+u)/(2*u):=by
  rw[Int.le_ediv_iff_mul_le om]
  have e1:u*(2*m-1)=u*m*2-u:=by rw[Int.mul_sub,Int.mul_one,Int.mul_comm 2 m,Int.mul_assoc]
  have e2:m*(2*u)=u*m*2:=by rw[Int.mul_comm 2 u,← Int.mul_assoc,Int.mul_comm m u]
  rw[e1,e2];omega
def cmN (op an ad bn bd:Int):Int:=if op=1 then an*bd+bn*ad else if op=2 then an*bd+bn*(0-ad) else if op=3 then an*bn else if bn*ad<0 then -(an*bd) else an*bd
def cmD (op ad bn bd:Int):Int:=if op=4 then (if bn*ad<0 then -(bn*ad) else bn*ad) else ad*bd
def opV (op:Int) (ta:Fxd) (ra:Int) (tb:Fxd) (rb:Int) (t:Fxd):Int:=dk (cmN op (ac ta ra) ta.aa (ac tb rb) tb.aa) (cmD op ta.aa (ac tb rb) tb.aa) t
abbrev okA (n d:Int):Prop:=(-4503600701112320≤n∧n≤4503600701112320)∧1≤d∧d≤1048576
abbrev okC (n d:Int):Prop:=(-40564819207303340847894502572032≤n∧n≤40564819207303340847894502572032)∧1≤d∧d≤9444732965739290427392
theorem ef {t:Fxd} {r:Int} (h:bF t=true) (hr:bN t≤r∧r≤bR t):okA (ac t r) t.aa:=⟨(num_bd h hr).2,(ew.1 h).2.2.1⟩
theorem prod_pos {x y:Int} (hx:1≤x) (hy:1≤y):1≤x*y:=by have:=Int.mul_pos (a:=x) (b:=y) om om;omega
theorem prod_ne {x y:Int} (hx:x≠0) (hy:y≠0):x*y≠0:=Int.mul_ne_zero hx hy
theorem cm_ok {op an ad bn bd:Int} (ha:okA an ad) (hb:okA bn bd) (ho:1≤op∧op≤4) (hz:op=4→bn≠0):okC (cmN op an ad bn bd) (cmD op ad bn bd):=by
  have h1:=cL (x:=an) (y:=bd) 4503600701112320 1048576 om om
  have h2:=cL (x:=bn) (y:=ad) 4503600701112320 1048576 om om
  have h3:=cL (x:=an) (y:=bn) 4503600701112320 4503600701112320 om om
  have h4:=cL (x:=ad) (y:=bd) 1048576 1048576 om om
  have h5:=prod_pos ha.2.1 hb.2.1
  have h6:bn*(0-ad)= -(bn*ad):=by rw[Int.zero_sub,Int.mul_neg]
  have h7:op=4→bn*ad≠0:=fun e=>prod_ne (hz e) om
  unfold cmN cmD
  rw[h6]
  refine⟨?_,?_⟩
  · split
    · omega
    · split
      · omega
      · split
        · omega
        · split<;>omega
  · split
    · rename_i e;have:=h7 e;split<;>omega
    · omega
theorem er {a b:Unt}:cj a b=true↔a=b:=by
  obtain ⟨a1,a2,a3,a4,a5⟩:=a;obtain ⟨b1,b2,b3,b4,b5⟩:=b
  unfold cj;simp
def fitOK (op:Int) (a b t:Unt):Bool:=if op=3 then (unE a b 1==0)&&cj (unX a b 1) t else if op=4 then (unE a b (-1)==0)&&cj (unX a b (-1)) t else cj a t&&cj b t
theorem fit_of {op:Int} {a b t:Unt} (h:cQ op a b t=true) (ho:5≤op∧op≤8):fitOK (op-4) a b t=true:=by
  unfold cQ at h;unfold fitOK
  have:op=5∨op=6∨op=7∨op=8:=by omega
  rcases this with rfl|rfl|rfl|rfl
  · simp only[Bool.and_eq_true,er,if_true,true_or] at h
    obtain ⟨rfl,rfl⟩:=h;simp[er]
  · simp[er] at h
    obtain ⟨rfl,rfl⟩:=h;simp[er]
  · simpa using h
  · simpa using h
def opE (op:Int) (tb:Fxd) (rb:Int):Int:=if op=4∧ac tb rb=0 then 10 else 0
def es (op:Int) (tb:Fxd) (rb:Int) (t:Fxd):Fxd:=if opE op tb rb=0 then t else fx0
def di (op:Int) (ta:Fxd) (ra:Int) (tb:Fxd) (rb:Int) (t:Fxd):Int:=if opE op tb rb=0 then opV op ta ra tb rb t else 0
theorem op_zero {op:Int} {ta tb t:Fxd} {ra rb:Int} (h:op=4∧ac tb rb=0):opE op tb rb=10∧es op tb rb t=fx0∧di op ta ra tb rb t=0:=by
  have e:opE op tb rb=10:=by unfold opE;rw[if_pos h]
  unfold es di;rw[e];exact⟨rfl,rfl,rfl⟩
theorem op_fine {op:Int} {ta tb t:Fxd} {ra rb:Int} (h:¬ (op=4∧ac tb rb=0)):opE op tb rb=0∧es op tb rb t=t∧di op ta ra tb rb t=opV op ta ra tb rb t:=by
  have e:opE op tb rb=0:=by unfold opE;rw[if_neg h]
  unfold es di;rw[e];exact⟨rfl,rfl,rfl⟩
abbrev inT (t:Fxd) (r:Int):Prop:=bN t≤r∧r≤bR t

theorem hb136:af prog 136:=fun _ _=>by kernel_rfl

theorem lim_any (t:Fxd) (w:World) (ht:cA w t):Ret prog 136 #[.agg (aI t)] w (fun v w'=>v=.tuple #[iv (bN t),iv (bR t)]∧Sep w [] w'):=by
 refine Ret.st (N:=24) func136 fun R hR S0=>?_
 obtain ⟨q1,q2,q3,q4,q5,q6,q7,q8,q9,_⟩:=id ht
 refine J.nw 2 [] [] [] S0 1 (aN t) 54 fun b1 w1 S1=>J.lb 7 [] [] [] S1 0 rfl 5 (.agg (aI t))<|J.c0 0 [] [] [] S1 6 hb47 (fxvalid_any t _ (aw ht S1)) fun w2 S2=>J.bn 3 [] [] [] 4 (bF t) (fun fk1=>?_) fun fk1=>?_
 have hfp:=ew.1 fk1
 have hp1:=pow_bd (k:=(t.aK-1).toNat) om
 have hp2:=pow_bd (k:=(t.aK).toNat) om
 refine J.lb 4 [false] [] [] S2 0 rfl 10 (.bool t.dQ)<|J.b 2 [] [] [] 8 t.dQ (fun fk2=>?_) fun fk2=>?_
 refine J.r 2 [true] [] []<|J.drawStill S2 11 Tryz.mixed kr kr kr ?_
 intro w3 S3
 refine SL.r 11 (pv b1)<|SL.lb S3 0 rfl 12 (iv t.aK)<|SL.r 13 (iv (IntKind.wrap .i64 (t.aK-1)))<|SL.head (iv (t.aK-1)) (congrArg (Value.int .i64) (IntWalk.i64_in _ om))<|SL.ok dE (OK.shl 14 .i64 (-1) (t.aK-1) ((-1)*2^(t.aK-1).toNat) kr om ((lim_shl om om)))<|SL.r 15 (pv b1)<|SL.lb S3 0 rfl 16 (iv t.aK)<|SL.r 17 (iv (IntKind.wrap .i64 (t.aK-1)))<|SL.head (iv (t.aK-1)) (congrArg (Value.int .i64) (IntWalk.i64_in _ om))<|SL.ok dE (OK.shl 18 .i64 1 (t.aK-1) (1*2^(t.aK-1).toNat) kr om ((lim_shl om om)))<|SL.r 19 (iv (IntKind.wrap .i64 ((1*2^(t.aK-1).toNat)-1))) ?_
 refine SL.head (iv ((1*2^(t.aK-1).toNat)-1)) (congrArg (Value.int .i64) (IntWalk.i64_in _ om))<|SL.r 2 (iv ((-1)*2^(t.aK-1).toNat))<|SL.r 3 (iv ((1*2^(t.aK-1).toNat)-1))<|SL.done<|TL.done kr<|J.e 0 [iv ((-1)*2^(t.aK-1).toNat),iv ((1*2^(t.aK-1).toNat)-1)] func136 (hR _ _ ?_)
 obtain ⟨e1,e2⟩:=lim_s fk1 fk2
 exact⟨by rw[dX,e1,e2],S3.nil⟩
 refine J.r 4 [false] [] []<|J.drawStill S2 6 Tryz.mixed kr kr kr ?_
 intro w4 S4
 refine SL.r 20 (pv b1)<|SL.lb S4 0 rfl 21 (iv t.aK)<|SL.ok dE (OK.shl 22 .i64 1 t.aK (1*2^(t.aK).toNat) kr om ((lim_shl om om)))<|SL.r 23 (iv (IntKind.wrap .i64 ((1*2^(t.aK).toNat)-1)))<|SL.head (iv ((1*2^(t.aK).toNat)-1)) (congrArg (Value.int .i64) (IntWalk.i64_in _ om))<|SL.r 2 (iv 0)<|SL.r 3 (iv ((1*2^(t.aK).toNat)-1))<|SL.done<|TL.done kr<|J.e 0 [iv 0,iv ((1*2^(t.aK).toNat)-1)] func136 (hR _ _ ?_)
 obtain ⟨e1,e2⟩:=lim_u fk1 fk2
 exact⟨by rw[dX,e1,e2],S4.nil⟩
 refine J.e 6 [iv 0,iv 0] func136 (hR _ _ ?_)
 obtain ⟨e1,e2⟩:=lim_no fk1
 exact⟨by rw[dX,e1,e2],S2.nil⟩

theorem hb140:af prog 140:=fun _ _=>by kernel_rfl

theorem number_any (t:Fxd) (r:Int) (w:World) (ft:bF t=true) (rt:inT t r):Ret prog 140 #[.agg (vlA t r)] w (fun v w'=>v=.tuple #[iv (ac t r),iv (t.aa)]∧Sep w [] w'):=by
 refine Ret.st (N:=17) func140 fun R hR S0=>?_
 have hnb:=num_bd ft rt
 have hnd:ac t r=r*t.aT+t.aF:=rfl
 have hfp:=ew.1 ft
 refine J.nw 2 [] [] [] S0 1 (vlL t r) 102 fun b1 w1 S1=>J.r 4 [] [] []<|J.drawStill S1 15 Tryz.mixed kr kr kr ?_
 intro w2 S2
 refine SL.r 4 (.pointer (some ⟨b1,10,none⟩))<|SL.lb S2 0 rfl 5 (iv r)<|SL.r 6 (pv b1)<|SL.r 7 (.pointer (some ⟨b1,2,none⟩))<|SL.lb S2 0 rfl 8 (iv t.aT)<|SL.r 9 (iv (IntKind.wrap .i64 (r*t.aT)))<|SL.head (iv (r*t.aT)) (congrArg (Value.int .i64) (IntWalk.i64_in _ om))<|SL.r 10 (pv b1)<|SL.r 11 (.pointer (some ⟨b1,3,none⟩))<|SL.lb S2 0 rfl 12 (iv t.aF)<|SL.r 13 (iv (IntKind.wrap .i64 ((r*t.aT)+t.aF))) ?_
 refine SL.head (iv ((r*t.aT)+t.aF)) (congrArg (Value.int .i64) (IntWalk.i64_in _ om))<|SL.r 14 (pv b1)<|SL.r 15 (.pointer (some ⟨b1,4,none⟩))<|SL.lb S2 0 rfl 16 (iv t.aa)<|SL.r 2 (iv ((r*t.aT)+t.aF))<|SL.r 3 (iv t.aa)<|SL.done<|TL.done kr<|J.e 0 [iv ((r*t.aT)+t.aF),iv t.aa] func140 (hR _ _ ?_)
 exact⟨rfl,S2.nil⟩

theorem hb162:af prog 162:=fun _ _=>by kernel_rfl
def K162_0:=adv 74 [false,false,false,true] (bi Tryz.f162)
theorem combine_any (op:Int) (ta:Fxd) (ra:Int) (tb:Fxd) (rb:Int) (w:World) (fa:bF ta=true) (ha:inT ta ra) (fb:bF tb=true) (hb:inT tb rb) (ho:1≤op∧op≤4):Ret prog 162 #[iv op,.agg (vlA ta ra),.agg (vlA tb rb)] w (fun v w'=>v=.agg (exA (cmN op (ac ta ra) ta.aa (ac tb rb) tb.aa) (cmD op ta.aa (ac tb rb) tb.aa))∧Sep w [] w'):=by
 refine Ret.st (N:=87) func162 fun R hR S0=>?_
 have hoa:=ef fa ha
 have hob:=ef fb hb
 have hp0:=cL (x:=ac ta ra) (y:=tb.aa) 4503600701112320 1048576 om om
 have hp1:=cL (x:=ac tb rb) (y:=ta.aa) 4503600701112320 1048576 om om
 have hp2:=cL (x:=ac ta ra) (y:=ac tb rb) 4503600701112320 4503600701112320 om om
 have hp3:=cL (x:=ta.aa) (y:=tb.aa) 1048576 1048576 om om
 have hp4:(ac tb rb)*(0-ta.aa)= -((ac tb rb)*ta.aa):=by rw[Int.zero_sub,Int.mul_neg]
 refine J.nw 2 [] [] [] S0 4 (vlL ta ra) 102 fun b1 w1 S1=>J.nw 0 [] [] [] S1 5 (vlL tb rb) 102 fun b2 w2 S2=>J.nw 0 [] [] [] S2 6 cC 176 fun b3 w3 S3=>J.lb 3 [] [] [] S3 2 rfl 13 (.agg (vlA ta ra))<|J.c0 0 [] [] [] S3 14 hb140 (number_any ta ra _ fa ha) fun w4 S4=>J.lb 8 [] [(8,iv ((ta).aa)),(7,iv (ac ta ra))] [] S4 1 rfl 18 (.agg (vlA tb rb))<|J.c0 0 [] [] [] S4 19 hb140 (number_any tb rb _ fb hb) fun w5 S5=>J.c 17 [] [(22,iv op),(10,iv ((tb).aa)),(9,iv (ac tb rb))] [] 23 (op=1) (fun fk1=>?_) fun fk1=>?_
 refine J.c0 4 [true] [] [] S5 26 hb141 (dY (ac ta ra) _ om) fun w6 S6=>J.c0 1 [] [] [] S6 28 eu (bG (ac ta ra) ((tb).aa) _ cO om) fun w7 S7=>J.c0 1 [] [] [] S7 30 hb141 (dY (ac tb rb) _ om) fun w8 S8=>J.c0 1 [] [] [] S8 32 eu (bG (ac tb rb) ((ta).aa) _ cO om) fun w9 S9=>J.c0 0 [] [] [] S9 33 hb172 (wadd_any ((ac ta ra)*((tb).aa)) ((ac tb rb)*((ta).aa)) _) fun w10 S10=>J.c0 1 [] [] [] S10 35 hb141 (dY ((ta).aa) _ om) fun w11 S11=>J.c0 1 [] [] [] S11 37 eu (bG ((ta).aa) ((tb).aa) _ cO om) fun w12 S12=>J.sb 1 [] [] [] S12 0 rfl (exL (((ac ta ra)*((tb).aa))+((ac tb rb)*((ta).aa))) (((ta).aa)*((tb).aa))) rfl fun w13 S13=>J.ez 1 [.agg (exA (((ac ta ra)*((tb).aa))+((ac tb rb)*((ta).aa))) (((ta).aa)*((tb).aa)))] func162 (bk (S13.nth 0 rfl) bn) (hR _ _ ?_)
 have e1:cmN op (ac ta ra) ta.aa (ac tb rb) tb.aa=((ac ta ra)*((tb).aa))+((ac tb rb)*((ta).aa)):=by unfold cmN;(repeat first | rw[if_pos om] | rw[if_neg om])
 have e2:cmD op ta.aa (ac tb rb) tb.aa=((ta).aa)*((tb).aa):=by unfold cmD;(repeat first | rw[if_pos om] | rw[if_neg om])
 exact⟨by rw[e1,e2];rfl,S13.nil⟩
 refine J.c 6 [false] [] [] 39 (op=2) (fun fk2=>?_) fun fk2=>?_
 refine J.c0 4 [true] [] [] S5 42 hb141 (dY (ac ta ra) _ om) fun w14 S14=>J.c0 1 [] [] [] S14 44 eu (bG (ac ta ra) ((tb).aa) _ cO om) fun w15 S15=>J.c0 1 [] [] [] S15 46 hb141 (dY (ac tb rb) _ om) fun w16 S16=>J.wi 2 [] [] [] 48 (0-((ta).aa))<|J.c0 0 [] [] [] S16 49 eu (bG (ac tb rb) (0-((ta).aa)) _ cO om) fun w17 S17=>J.c0 0 [] [] [] S17 50 hb172 (wadd_any ((ac ta ra)*((tb).aa)) ((ac tb rb)*(0-((ta).aa))) _) fun w18 S18=>J.c0 1 [] [] [] S18 52 hb141 (dY ((ta).aa) _ om) fun w19 S19=>J.c0 1 [] [] [] S19 54 eu (bG ((ta).aa) ((tb).aa) _ cO om) fun w20 S20=>J.sb 1 [] [] [] S20 0 rfl (exL (((ac ta ra)*((tb).aa))+((ac tb rb)*(0-((ta).aa)))) (((ta).aa)*((tb).aa))) rfl fun w21 S21=>J.ez 1 [.agg (exA (((ac ta ra)*((tb).aa))+((ac tb rb)*(0-((ta).aa)))) (((ta).aa)*((tb).aa)))] func162 (bk (S21.nth 0 rfl) bn) (hR _ _ ?_)
 have e1:cmN op (ac ta ra) ta.aa (ac tb rb) tb.aa=((ac ta ra)*((tb).aa))+((ac tb rb)*(0-((ta).aa))):=by unfold cmN;(repeat first | rw[if_pos om] | rw[if_neg om])
 have e2:cmD op ta.aa (ac tb rb) tb.aa=((ta).aa)*((tb).aa):=by unfold cmD;(repeat first | rw[if_pos om] | rw[if_neg om])
 exact⟨by rw[e1,e2];rfl,S21.nil⟩
 refine J.c 6 [false] [] [] 56 (op=3) (fun fk3=>?_) fun fk3=>?_
 refine J.c0 4 [true] [] [] S5 59 hb141 (dY (ac ta ra) _ om) fun w22 S22=>J.c0 1 [] [] [] S22 61 eu (bG (ac ta ra) (ac tb rb) _ cO om) fun w23 S23=>J.c0 1 [] [] [] S23 63 hb141 (dY ((ta).aa) _ om) fun w24 S24=>J.c0 1 [] [] [] S24 65 eu (bG ((ta).aa) ((tb).aa) _ cO om) fun w25 S25=>J.sb 1 [] [] [] S25 0 rfl (exL ((ac ta ra)*(ac tb rb)) (((ta).aa)*((tb).aa))) rfl fun w26 S26=>J.ez 1 [.agg (exA ((ac ta ra)*(ac tb rb)) (((ta).aa)*((tb).aa)))] func162 (bk (S26.nth 0 rfl) bn) (hR _ _ ?_)
 have e1:cmN op (ac ta ra) ta.aa (ac tb rb) tb.aa=(ac ta ra)*(ac tb rb):=by unfold cmN;(repeat first | rw[if_pos om] | rw[if_neg om])
 have e2:cmD op ta.aa (ac tb rb) tb.aa=((ta).aa)*((tb).aa):=by unfold cmD;(repeat first | rw[if_pos om] | rw[if_neg om])
 exact⟨by rw[e1,e2];rfl,S26.nil⟩
 refine J.c0 6 [false] [] [] S5 68 hb141 (dY (ac ta ra) _ om) fun w27 S27=>J.c0 1 [] [] [] S27 70 eu (bG (ac ta ra) ((tb).aa) _ cO om) fun w28 S28=>J.c0 1 [] [] [] S28 72 hb141 (dY (ac tb rb) _ om) fun w29 S29=>J.c0 1 [] [] [] S29 74 eu (bG (ac tb rb) ((ta).aa) _ cO om) fun w30 S30=>J.nw 1 [] [(75,.agg (exA ((ac ta ra)*((tb).aa)) ((ac tb rb)*((ta).aa))))] [] S30 11 cC 176 fun b4 w31 S31=>J.sb 0 [] [] [] S31 0 rfl (exL ((ac ta ra)*((tb).aa)) ((ac tb rb)*((ta).aa))) rfl fun w32 S32=>J.lb 5 [] [] [] S32 0 rfl 77 (.agg (wvA ((ac tb rb)*((ta).aa))))<|J.c0 0 [] [] [] S32 78 hb164 (wneg_any ((ac tb rb)*((ta).aa)) _ cO) fun w33 S33=>J.c 1 [] [] [] 78 (((ac tb rb)*((ta).aa))<0) (fun fk4=>?_) fun fk4=>?_
 refine J.r 1 [true] [] [] ?_
 have W1:∀ (w34:World),Sep w [box b4 (exL (-((ac ta ra)*((tb).aa))) (-((ac tb rb)*((ta).aa)))) 176,box b3 cC 176,box b2 (vlL tb rb) 102,box b1 (vlL ta ra) 102] w34→WA prog 162 87 R K162_0 (fun w_=>Sep w [box b3 cC 176,box b2 (vlL tb rb) 102,box b1 (vlL ta ra) 102] w_) 0 #[true,true,true,true,true,true,true,true] [(6,pv b3),(11,pv b4)] w34:=by
  intro w34 S34
  refine WA.done kr<|J.lb 2 [] [] [] S34 0 rfl 86 (.agg (exA (-((ac ta ra)*((tb).aa))) (-((ac tb rb)*((ta).aa)))))<|J.sb 0 [] [] [] S34 1 rfl (exL (-((ac ta ra)*((tb).aa))) (-((ac tb rb)*((ta).aa)))) rfl fun w35 S35=>J.ez 1 [.agg (exA (-((ac ta ra)*((tb).aa))) (-((ac tb rb)*((ta).aa))))] func162 (bk (S35.nth 1 rfl) bn) (hR _ _ ?_)
  have e1:cmN op (ac ta ra) ta.aa (ac tb rb) tb.aa= -((ac ta ra)*((tb).aa)):=by unfold cmN;(repeat first | rw[if_pos om] | rw[if_neg om])
  have e2:cmD op ta.aa (ac tb rb) tb.aa= -((ac tb rb)*((ta).aa)):=by unfold cmD;(repeat first | rw[if_pos om] | rw[if_neg om])
  exact⟨by rw[e1,e2];rfl,S35.nil⟩
 have W2:∀ (w36:World),Sep w [box b4 (exL ((ac ta ra)*((tb).aa)) ((ac tb rb)*((ta).aa))) 176,box b3 cC 176,box b2 (vlL tb rb) 102,box b1 (vlL ta ra) 102] w36→WA prog 162 87 R K162_0 (fun w_=>Sep w [box b3 cC 176,box b2 (vlL tb rb) 102,box b1 (vlL ta ra) 102] w_) 1 #[true,true,true,true,true,true,true,false] [(6,pv b3),(11,pv b4),(85,.agg (exA (-((ac ta ra)*((tb).aa))) (-((ac tb rb)*((ta).aa)))))] w36:=by
  intro w36 S36
  refine WA.all [7] kr rfl ⟨?_,trivial⟩
  refine WO.set #[true,true,true,true,true,true,true,true] kr<|WO.stBox S36 0 176 0 (.agg (exA (-((ac ta ra)*((tb).aa))) (-((ac tb rb)*((ta).aa))))) (exL (-((ac ta ra)*((tb).aa))) (-((ac tb rb)*((ta).aa)))) [box b4 (exL (-((ac ta ra)*((tb).aa))) (-((ac tb rb)*((ta).aa)))) 176,box b3 cC 176,box b2 (vlL tb rb) 102,box b1 (vlL ta ra) 102] kr rfl kr kr rfl ?_
  intro w37 S37
  exact WB.mk (S37.erase 0)<|WA.weaken (env':=[(6,pv b3),(11,pv b4)]) kr<|W1 w37 S37
 have W3:∀ (w38:World),Sep w [box b4 (exL ((ac ta ra)*((tb).aa)) ((ac tb rb)*((ta).aa))) 176,box b3 cC 176,box b2 (vlL tb rb) 102,box b1 (vlL ta ra) 102] w38→WA prog 162 87 R K162_0 (fun w_=>Sep w [box b3 cC 176,box b2 (vlL tb rb) 102,box b1 (vlL ta ra) 102] w_) 3 #[true,true,true,true,true,false,false,false] [(6,pv b3),(11,pv b4),(81,.agg (wvA (-((ac ta ra)*((tb).aa))))),(83,.agg (wvA ((ac tb rb)*((ta).aa))))] w38:=by
  intro w38 S38
  refine WA.all [5] kr rfl ⟨?_,trivial⟩
  refine WO.set #[true,true,true,true,true,true,false,false] kr<|WO.callF 84 165 #[.agg (wvA ((ac tb rb)*((ta).aa)))] hb165 kr (wminus_any ((ac tb rb)*((ta).aa)) _) ?_
  rintro _ w39 ⟨rfl,T1⟩
  have S39:Sep w [box b4 (exL ((ac ta ra)*((tb).aa)) ((ac tb rb)*((ta).aa))) 176,box b3 cC 176,box b2 (vlL tb rb) 102,box b1 (vlL ta ra) 102] w39:=S38.trans T1
  exact WB.mk (S39.erase 0)<|WA.take 6 85 (.agg (exA (-((ac ta ra)*((tb).aa))) (-((ac tb rb)*((ta).aa))))) #[true,true,true,true,true,true,true,false] kr kr kr (fun _ _=>kr) kr<|WA.weaken (env':=[(6,pv b3),(11,pv b4),(85,.agg (exA (-((ac ta ra)*((tb).aa))) (-((ac tb rb)*((ta).aa)))))]) kr<|W2 w39 S39
 have W4:∀ (w40:World),Sep w [box b4 (exL ((ac ta ra)*((tb).aa)) ((ac tb rb)*((ta).aa))) 176,box b3 cC 176,box b2 (vlL tb rb) 102,box b1 (vlL ta ra) 102] w40→WA prog 162 87 R K162_0 (fun w_=>Sep w [box b3 cC 176,box b2 (vlL tb rb) 102,box b1 (vlL ta ra) 102] w_) 4 #[true,true,false,true,true,false,false,false] [(6,pv b3),(11,pv b4),(80,.agg (wvA ((ac ta ra)*((tb).aa)))),(83,.agg (wvA ((ac tb rb)*((ta).aa))))] w40:=by
  intro w40 S40
  refine WA.all [2] kr rfl ⟨?_,trivial⟩
  refine WO.set #[true,true,true,true,true,false,false,false] kr<|WO.callF 81 165 #[.agg (wvA ((ac ta ra)*((tb).aa)))] hb165 kr (wminus_any ((ac ta ra)*((tb).aa)) _) ?_
  rintro _ w41 ⟨rfl,T2⟩
  have S41:Sep w [box b4 (exL ((ac ta ra)*((tb).aa)) ((ac tb rb)*((ta).aa))) 176,box b3 cC 176,box b2 (vlL tb rb) 102,box b1 (vlL ta ra) 102] w41:=S40.trans T2
  exact WB.mk (S41.erase 0)<|WA.weaken (env':=[(6,pv b3),(11,pv b4),(81,.agg (wvA (-((ac ta ra)*((tb).aa))))),(83,.agg (wvA ((ac tb rb)*((ta).aa))))]) kr<|W3 w41 S41
 have W5:∀ (w42:World),Sep w [box b4 (exL ((ac ta ra)*((tb).aa)) ((ac tb rb)*((ta).aa))) 176,box b3 cC 176,box b2 (vlL tb rb) 102,box b1 (vlL ta ra) 102] w42→WA prog 162 87 R K162_0 (fun w_=>Sep w [box b3 cC 176,box b2 (vlL tb rb) 102,box b1 (vlL ta ra) 102] w_) 4 #[true,true,true,true,false,false,false,false] [(6,pv b3),(11,pv b4),(81,.agg (wvA (-((ac ta ra)*((tb).aa))))),(82,.pointer (some ⟨b4,2,none⟩))] w42:=by
  intro w42 S42
  refine WA.all [4] kr rfl ⟨?_,trivial⟩
  exact WO.set #[true,true,true,true,true,false,false,false] kr<|WO.ok (OK.ldBox S42 0 83 162 2 (.agg (wvA ((ac tb rb)*((ta).aa)))) kr rfl kr)<|WB.mk (S42.erase 0)<|WA.weaken (env':=[(6,pv b3),(11,pv b4),(81,.agg (wvA (-((ac ta ra)*((tb).aa))))),(83,.agg (wvA ((ac tb rb)*((ta).aa))))]) kr<|W3 w42 S42
 have W6:∀ (w43:World),Sep w [box b4 (exL ((ac ta ra)*((tb).aa)) ((ac tb rb)*((ta).aa))) 176,box b3 cC 176,box b2 (vlL tb rb) 102,box b1 (vlL ta ra) 102] w43→WA prog 162 87 R K162_0 (fun w_=>Sep w [box b3 cC 176,box b2 (vlL tb rb) 102,box b1 (vlL ta ra) 102] w_) 5 #[true,true,false,true,false,false,false,false] [(6,pv b3),(11,pv b4),(80,.agg (wvA ((ac ta ra)*((tb).aa)))),(82,.pointer (some ⟨b4,2,none⟩))] w43:=by
  intro w43 S43
  refine WA.all [2,4] kr rfl ⟨?_,?_,trivial⟩
  refine WO.set #[true,true,true,true,false,false,false,false] kr<|WO.callF 81 165 #[.agg (wvA ((ac ta ra)*((tb).aa)))] hb165 kr (wminus_any ((ac ta ra)*((tb).aa)) _) ?_
  rintro _ w44 ⟨rfl,T3⟩
  have S44:Sep w [box b4 (exL ((ac ta ra)*((tb).aa)) ((ac tb rb)*((ta).aa))) 176,box b3 cC 176,box b2 (vlL tb rb) 102,box b1 (vlL ta ra) 102] w44:=S43.trans T3
  exact WB.mk (S44.erase 0)<|WA.weaken (env':=[(6,pv b3),(11,pv b4),(81,.agg (wvA (-((ac ta ra)*((tb).aa))))),(82,.pointer (some ⟨b4,2,none⟩))]) kr<|W5 w44 S44
  exact WO.set #[true,true,false,true,true,false,false,false] kr<|WO.ok (OK.ldBox S43 0 83 162 2 (.agg (wvA ((ac tb rb)*((ta).aa)))) kr rfl kr)<|WB.mk (S43.erase 0)<|WA.weaken (env':=[(6,pv b3),(11,pv b4),(80,.agg (wvA ((ac ta ra)*((tb).aa)))),(83,.agg (wvA ((ac tb rb)*((ta).aa))))]) kr<|W4 w43 S43
 have W7:∀ (w45:World),Sep w [box b4 (exL ((ac ta ra)*((tb).aa)) ((ac tb rb)*((ta).aa))) 176,box b3 cC 176,box b2 (vlL tb rb) 102,box b1 (vlL ta ra) 102] w45→WA prog 162 87 R K162_0 (fun w_=>Sep w [box b3 cC 176,box b2 (vlL tb rb) 102,box b1 (vlL ta ra) 102] w_) 5 #[true,false,false,true,true,false,false,false] [(6,pv b3),(11,pv b4),(79,pv b4),(83,.agg (wvA ((ac tb rb)*((ta).aa))))] w45:=by
  intro w45 S45
  refine WA.all [1] kr rfl ⟨?_,trivial⟩
  exact WO.set #[true,true,false,true,true,false,false,false] kr<|WO.ok (OK.ldBox S45 0 80 162 0 (.agg (wvA ((ac ta ra)*((tb).aa)))) kr rfl kr)<|WB.mk (S45.erase 0)<|WA.weaken (env':=[(6,pv b3),(11,pv b4),(80,.agg (wvA ((ac ta ra)*((tb).aa)))),(83,.agg (wvA ((ac tb rb)*((ta).aa))))]) kr<|W4 w45 S45
 have W8:∀ (w46:World),Sep w [box b4 (exL ((ac ta ra)*((tb).aa)) ((ac tb rb)*((ta).aa))) 176,box b3 cC 176,box b2 (vlL tb rb) 102,box b1 (vlL ta ra) 102] w46→WA prog 162 87 R K162_0 (fun w_=>Sep w [box b3 cC 176,box b2 (vlL tb rb) 102,box b1 (vlL ta ra) 102] w_) 6 #[true,false,false,true,false,false,false,false] [(6,pv b3),(11,pv b4),(79,pv b4),(82,.pointer (some ⟨b4,2,none⟩))] w46:=by
  intro w46 S46
  refine WA.all [1,4] kr rfl ⟨?_,?_,trivial⟩
  exact WO.set #[true,true,false,true,false,false,false,false] kr<|WO.ok (OK.ldBox S46 0 80 162 0 (.agg (wvA ((ac ta ra)*((tb).aa)))) kr rfl kr)<|WB.mk (S46.erase 0)<|WA.weaken (env':=[(6,pv b3),(11,pv b4),(80,.agg (wvA ((ac ta ra)*((tb).aa)))),(82,.pointer (some ⟨b4,2,none⟩))]) kr<|W6 w46 S46
  exact WO.set #[true,false,false,true,true,false,false,false] kr<|WO.ok (OK.ldBox S46 0 83 162 2 (.agg (wvA ((ac tb rb)*((ta).aa)))) kr rfl kr)<|WB.mk (S46.erase 0)<|WA.weaken (env':=[(6,pv b3),(11,pv b4),(79,pv b4),(83,.agg (wvA ((ac tb rb)*((ta).aa))))]) kr<|W7 w46 S46
 refine J.drawAny (fun w_=>Sep w [box b3 cC 176,box b2 (vlL tb rb) 102,box b1 (vlL ta ra) 102] w_) S33 8 #[false,false,false,false,false,false,false,false] Tryz.mixed kr kr kr ?_
 intro w47 S47
 exact WB.mk (S47.erase 0)<|WA.take 0 79 (pv b4) #[true,false,false,false,false,false,false,false] kr kr kr (fun _ _=>kr) kr<|WA.take 3 82 (.pointer (some ⟨b4,2,none⟩)) #[true,false,false,true,false,false,false,false] kr kr kr (fun _ _=>kr) kr<|WA.weaken (env':=[(6,pv b3),(11,pv b4),(79,pv b4),(82,.pointer (some ⟨b4,2,none⟩))]) kr<|W8 w47 S47
 refine J.lb 4 [false] [] [] S33 0 rfl 86 (.agg (exA ((ac ta ra)*((tb).aa)) ((ac tb rb)*((ta).aa))))<|J.sb 0 [] [] [] S33 1 rfl (exL ((ac ta ra)*((tb).aa)) ((ac tb rb)*((ta).aa))) rfl fun w48 S48=>J.ez 1 [.agg (exA ((ac ta ra)*((tb).aa)) ((ac tb rb)*((ta).aa)))] func162 (bk (S48.nth 1 rfl) bn) (hR _ _ ?_)
 have e1:cmN op (ac ta ra) ta.aa (ac tb rb) tb.aa=(ac ta ra)*((tb).aa):=by unfold cmN;(repeat first | rw[if_pos om] | rw[if_neg om])
 have e2:cmD op ta.aa (ac tb rb) tb.aa=(ac tb rb)*((ta).aa):=by unfold cmD;(repeat first | rw[if_pos om] | rw[if_neg om])
 exact⟨by rw[e1,e2];rfl,S48.nil⟩

theorem hb160:af prog 160:=fun _ _=>by kernel_rfl
def K160_0:=adv 7 [] (bi Tryz.f160)
def K160_1:=adv 23 [] (cR (adv 7 [] (bi Tryz.f160)))
theorem result_any (n d:Int) (t:Fxd) (w:World) (ht:cA w t) (ft:bF t=true) (hc:okC n d):Ret prog 160 #[.agg (exA n d),.agg (aI t)] w (fun v w'=>v=.agg (vlA t (dk n d t))∧Sep w [] w'):=by
 refine Ret.st (N:=56) func160 fun R hR S0=>?_
 obtain ⟨q1,q2,q3,q4,q5,q6,q7,q8,q9,_⟩:=id ht
 have hfp:=ew.1 ft
 have hlim:=lim_bd t
 have hr1:=cL (x:=n) (y:=t.aa) 40564819207303340847894502572032 1048576 om om
 have hr2:=cL (x:=d) (y:=0-t.aF) 9444732965739290427392 1073741824 om om
 have hr3:=cL (x:=d) (y:=t.aT) 9444732965739290427392 1048576 om om
 have hr4:=prod_pos (x:=d) (y:=t.aT) om om
 have hst:=fun m:Int=>search_step (u:=d*t.aT) (tw:=(n*t.aa+d*(0-t.aF))*2) (m:=m) om
 have hqd:qF n d t=((n*t.aa+d*(0-t.aF))*2+d*t.aT)/(2*(d*t.aT)):=rfl
 refine J.nw 2 [] [] [] S0 2 (exL n d) 176 fun b1 w1 S1=>J.nw 0 [] [] [] S1 3 (aN t) 54 fun b2 w2 S2=>J.nw 0 [] [] [] S2 4 bC 102 fun b3 w3 S3=>J.r 2 [] [] [] ?_
 have W1:∀ (bd13:Nat) (w4:World),Sep w [box bd13 (wvL (((n*t.aa)+(d*(0-t.aF)))*2)) 162,box b3 bC 102,box b2 (aN t) 54,box b1 (exL n d) 176] w4→WA prog 160 56 R K160_0 (fun w_=>Sep w [box b3 bC 102,box b2 (aN t) 54,box b1 (exL n d) 176] w_) 0 #[true,true,true,true,true,true,true,true,true,true,true,true,true,true,true] [(2,pv b1),(3,pv b2),(4,pv b3),(5,pv bd13)] w4:=by
  intro bd13 w4 S4
  refine WA.done kr<|J.lb 3 [] [] [] S4 3 rfl 24 (.agg (wvA d))<|J.lb 1 [] [] [] S4 2 rfl 26 (iv t.aT)<|J.c0 0 [] [] [] S4 27 eu (bG d t.aT _ cO om) fun w5 S5=>J.nw 0 [] [] [] S5 6 [.int .u64 0,.int .u64 0] 162 fun b4 w6 S6=>J.sb 0 [] [] [] S6 0 rfl (wvL (d*t.aT)) rfl fun w7 S7=>J.lb 3 [] [] [] S7 3 rfl 29 (.agg (aI t))<|J.c0 0 [] [] [] S7 30 hb136 (lim_any t _ (aw ht S7)) fun w8 S8=>?_
  have hlim:=lim_bd (t)
  have L160_1:∀ (mm_:Nat) (lo:Int) (hi:Int) (w9:World),(bN t≤lo∧lo≤hi∧hi≤bR t)→(min (max (qF n d t) lo) hi=dk n d t)→Sep w [box b4 (wvL (d*t.aT)) 162,box bd13 (wvL (((n*t.aa)+(d*(0-t.aF)))*2)) 162,box b3 bC 102,box b2 (aN t) 54,box b1 (exL n d) 176] w9→(hi-lo).toNat=mm_→J prog 160 56 R K160_1 [(8,iv hi),(7,iv lo),(6,pv b4),(3,pv b2),(4,pv b3),(5,pv bd13)] w9:=by
   intro mm1
   induction mm1 using Nat.strongRecOn with
   | _ mm1 ih1 =>
   intro lo hi w9 h0 hq S9 hm1
   refine J.c 7 [] [] [] 35 (lo<hi) (fun fk1=>?_) fun fk1=>?_
   refine J.wi 9 [true] [(36,iv lo)] [] 39 (hi-lo)<|J.wi 1 [] [] [] 40 ((hi-lo)+1)<|J.h 1 [] [] [] 41 (iv (IntKind.wrap .i64 (Int.tdiv ((hi-lo)+1) 2))) (iv (((hi-lo)+1)/2)) (congrArg (Value.int .i64) (IntWalk.i64_quo _ _ om))<|J.wi 1 [] [] [] 42 (lo+(((hi-lo)+1)/2)) ?_
   have hmb:=cL (x:=d*t.aT) (y:=2*(lo+(((hi-lo)+1)/2))-1) 9903520314283042199192993792 8589934593 om om
   have hms:=hst (lo+(((hi-lo)+1)/2))
   refine J.r 3 [] [(9,iv (lo+(((hi-lo)+1)/2)))] []<|J.drawPlan (fun w_=>Sep w [box b4 (wvL (d*t.aT)) 162,box bd13 (wvL (((n*t.aa)+(d*(0-t.aF)))*2)) 162,box b3 bC 102,box b2 (aN t) 54,box b1 (exL n d) 176] w_) [(0,true),(1,true),(2,true),(3,true),(5,true),(4,false),(6,false)] S9 Tryz.mixed kr (aE (T:=[(0,some 43,64),(0,some 44,512),(2,some 45,17592186044416),(4,some 46,35184372088832),(9,some 47,79164837199872),(0,some 48,32),(48,some 49,422212465065984)]) kr kr) ?_
   intro w10 S10
   refine PB.mk S10<|PL.takeOK 0 (fun w_ S_=>OK.ldBox S_ 0 43 162 0 (.agg (wvA (d*t.aT))) kr rfl kr) rfl<|PL.take 1 44 (iv (lo+(((hi-lo)+1)/2))) (fun _ _=>kr)<|PL.take 2 45 (iv (IntKind.wrap .i64 (2*(lo+(((hi-lo)+1)/2))))) (fun _ _=>kr)<|PL.head (iv (2*(lo+(((hi-lo)+1)/2)))) (congrArg (Value.int .i64) (IntWalk.i64_in _ om))<|PL.take 3 46 (iv (IntKind.wrap .i64 ((2*(lo+(((hi-lo)+1)/2)))-1))) (fun _ _=>kr)<|PL.head (iv ((2*(lo+(((hi-lo)+1)/2)))-1)) (congrArg (Value.int .i64) (IntWalk.i64_in _ om))<|PL.takeOK 5 (fun w_ S_=>OK.ldBox S_ 1 48 162 0 (.agg (wvA (((n*t.aa)+(d*(0-t.aF)))*2))) kr rfl kr) rfl<|PL.callF 47 142 #[.agg (wvA (d*t.aT)),iv ((2*(lo+(((hi-lo)+1)/2)))-1)] eu kr (bG (d*t.aT) ((2*(lo+(((hi-lo)+1)/2)))-1) _ cO om) ?_
   rintro _ w11 ⟨rfl,T1⟩
   have S11:Sep w [box b4 (wvL (d*t.aT)) 162,box bd13 (wvL (((n*t.aa)+(d*(0-t.aF)))*2)) 162,box b3 bC 102,box b2 (aN t) 54,box b1 (exL n d) 176] w11:=S10.trans T1
   refine PB.mk S11<|PL.callF 49 143 #[.agg (wvA ((d*t.aT)*((2*(lo+(((hi-lo)+1)/2)))-1))),.agg (wvA (((n*t.aa)+(d*(0-t.aF)))*2))] hb143 kr (watmost_any ((d*t.aT)*((2*(lo+(((hi-lo)+1)/2)))-1)) (((n*t.aa)+(d*(0-t.aF)))*2) _ cO cO) ?_
   rintro _ w12 ⟨rfl,T2⟩
   have S12:Sep w [box b4 (wvL (d*t.aT)) 162,box bd13 (wvL (((n*t.aa)+(d*(0-t.aF)))*2)) 162,box b3 bC 102,box b2 (aN t) 54,box b1 (exL n d) 176] w12:=S11.trans T2
   refine PB.mk S12<|PL.done<|J.c 0 [] [] [] 49 (((d*t.aT)*((2*(lo+(((hi-lo)+1)/2)))-1))≤(((n*t.aa)+(d*(0-t.aF)))*2)) (fun fk2=>?_) fun fk2=>?_
   exact J.t 7 (ih1 _ (show(hi-(lo+(((hi-lo)+1)/2))).toNat<mm1 from by omega) (lo+(((hi-lo)+1)/2)) hi w12 om (by rw[← hq];omega) S12 rfl)
   exact J.wi 4 [false] [] [] 52 ((lo+(((hi-lo)+1)/2))-1)<|J.t 4 (ih1 _ (show(((lo+(((hi-lo)+1)/2))-1)-lo).toNat<mm1 from by omega) lo ((lo+(((hi-lo)+1)/2))-1) w12 om (by rw[← hq];omega) S12 rfl)
   refine J.lb 4 [false] [] [] S9 3 rfl 53 (.agg (aI t))<|J.sb 2 [] [] [] S9 2 rfl (vlL t lo) rfl fun w13 S13=>J.ez 1 [.agg (vlA t lo)] func160 (bk (S13.nth 2 rfl) bn) (hR _ _ ?_)
   have e1:lo=dk n d t:=by rw[← hq];omega
   exact⟨by rw[← e1];rfl,S13.nil⟩
  exact J.t 9 (L160_1 _ (bN t) (bR t) w8 om (rfl) S8 rfl)
 have W2:∀ (bd13:Nat) (w14:World),Sep w [box bd13 [.int .u64 0,.int .u64 0] 162,box b3 bC 102,box b2 (aN t) 54,box b1 (exL n d) 176] w14→WA prog 160 56 R K160_0 (fun w_=>Sep w [box b3 bC 102,box b2 (aN t) 54,box b1 (exL n d) 176] w_) 1 #[true,true,true,true,true,true,true,true,true,true,true,true,true,true,false] [(2,pv b1),(3,pv b2),(4,pv b3),(5,pv bd13),(22,.agg (wvA (((n*t.aa)+(d*(0-t.aF)))*2)))] w14:=by
  intro bd13 w14 S14
  refine WA.all [14] kr rfl ⟨?_,trivial⟩
  refine WO.set #[true,true,true,true,true,true,true,true,true,true,true,true,true,true,true] kr<|WO.stBox S14 0 162 0 (.agg (wvA (((n*t.aa)+(d*(0-t.aF)))*2))) (wvL (((n*t.aa)+(d*(0-t.aF)))*2)) [box bd13 (wvL (((n*t.aa)+(d*(0-t.aF)))*2)) 162,box b3 bC 102,box b2 (aN t) 54,box b1 (exL n d) 176] kr rfl kr kr rfl ?_
  intro w15 S15
  exact WB.mk (S15.erase 0)<|WA.weaken (env':=[(2,pv b1),(3,pv b2),(4,pv b3),(5,pv bd13)]) kr<|W1 bd13 w15 S15
 have W3:∀ (bd13:Nat) (w16:World),Sep w [box bd13 [.int .u64 0,.int .u64 0] 162,box b3 bC 102,box b2 (aN t) 54,box b1 (exL n d) 176] w16→WA prog 160 56 R K160_0 (fun w_=>Sep w [box b3 bC 102,box b2 (aN t) 54,box b1 (exL n d) 176] w_) 2 #[true,true,true,true,true,true,true,true,true,true,true,true,false,true,false] [(2,pv b1),(3,pv b2),(4,pv b3),(5,pv bd13),(21,.agg (wvA ((n*t.aa)+(d*(0-t.aF)))))] w16:=by
  intro bd13 w16 S16
  refine WA.all [12] kr rfl ⟨?_,trivial⟩
  refine WO.set #[true,true,true,true,true,true,true,true,true,true,true,true,true,true,false] kr<|WO.callF 22 142 #[.agg (wvA ((n*t.aa)+(d*(0-t.aF)))),iv 2] eu kr (bG ((n*t.aa)+(d*(0-t.aF))) 2 _ cO om) ?_
  rintro _ w17 ⟨rfl,T3⟩
  have S17:Sep w [box bd13 [.int .u64 0,.int .u64 0] 162,box b3 bC 102,box b2 (aN t) 54,box b1 (exL n d) 176] w17:=S16.trans T3
  exact WB.mk (S17.erase 0)<|WA.weaken (env':=[(2,pv b1),(3,pv b2),(4,pv b3),(5,pv bd13),(22,.agg (wvA (((n*t.aa)+(d*(0-t.aF)))*2)))]) kr<|W2 bd13 w17 S17
 have W4:∀ (w18:World),Sep w [box b3 bC 102,box b2 (aN t) 54,box b1 (exL n d) 176] w18→WA prog 160 56 R K160_0 (fun w_=>Sep w [box b3 bC 102,box b2 (aN t) 54,box b1 (exL n d) 176] w_) 2 #[true,true,true,true,true,true,true,true,true,true,true,true,true,false,false] [(2,pv b1),(3,pv b2),(4,pv b3),(22,.agg (wvA (((n*t.aa)+(d*(0-t.aF)))*2)))] w18:=by
  intro w18 S18
  refine WA.all [13] kr rfl ⟨?_,trivial⟩
  refine WO.set #[true,true,true,true,true,true,true,true,true,true,true,true,true,true,false] kr<|WO.new S18 5 [.int .u64 0,.int .u64 0] 162 kr ?_
  intro bd13 w19 S19
  exact WB.mk (S19.erase 0)<|WA.weaken (env':=[(2,pv b1),(3,pv b2),(4,pv b3),(5,pv bd13),(22,.agg (wvA (((n*t.aa)+(d*(0-t.aF)))*2)))]) kr<|W2 bd13 w19 S19
 have W5:∀ (bd13:Nat) (w20:World),Sep w [box bd13 [.int .u64 0,.int .u64 0] 162,box b3 bC 102,box b2 (aN t) 54,box b1 (exL n d) 176] w20→WA prog 160 56 R K160_0 (fun w_=>Sep w [box b3 bC 102,box b2 (aN t) 54,box b1 (exL n d) 176] w_) 3 #[true,true,true,true,true,true,true,true,true,true,true,false,false,true,false] [(2,pv b1),(3,pv b2),(4,pv b3),(5,pv bd13),(14,.agg (wvA (n*t.aa))),(20,.agg (wvA (d*(0-t.aF))))] w20:=by
  intro bd13 w20 S20
  refine WA.all [11] kr rfl ⟨?_,trivial⟩
  refine WO.set #[true,true,true,true,true,true,true,true,true,true,true,true,false,true,false] kr<|WO.callF 21 172 #[.agg (wvA (n*t.aa)),.agg (wvA (d*(0-t.aF)))] hb172 kr (wadd_any (n*t.aa) (d*(0-t.aF)) _) ?_
  rintro _ w21 ⟨rfl,T4⟩
  have S21:Sep w [box bd13 [.int .u64 0,.int .u64 0] 162,box b3 bC 102,box b2 (aN t) 54,box b1 (exL n d) 176] w21:=S20.trans T4
  exact WB.mk (S21.erase 0)<|WA.weaken (env':=[(2,pv b1),(3,pv b2),(4,pv b3),(5,pv bd13),(21,.agg (wvA ((n*t.aa)+(d*(0-t.aF)))))]) kr<|W3 bd13 w21 S21
 have W6:∀ (w22:World),Sep w [box b3 bC 102,box b2 (aN t) 54,box b1 (exL n d) 176] w22→WA prog 160 56 R K160_0 (fun w_=>Sep w [box b3 bC 102,box b2 (aN t) 54,box b1 (exL n d) 176] w_) 3 #[true,true,true,true,true,true,true,true,true,true,true,true,false,false,false] [(2,pv b1),(3,pv b2),(4,pv b3),(21,.agg (wvA ((n*t.aa)+(d*(0-t.aF)))))] w22:=by
  intro w22 S22
  refine WA.all [12,13] kr rfl ⟨?_,?_,trivial⟩
  refine WO.set #[true,true,true,true,true,true,true,true,true,true,true,true,true,false,false] kr<|WO.callF 22 142 #[.agg (wvA ((n*t.aa)+(d*(0-t.aF)))),iv 2] eu kr (bG ((n*t.aa)+(d*(0-t.aF))) 2 _ cO om) ?_
  rintro _ w23 ⟨rfl,T5⟩
  have S23:Sep w [box b3 bC 102,box b2 (aN t) 54,box b1 (exL n d) 176] w23:=S22.trans T5
  exact WB.mk S23<|WA.weaken (env':=[(2,pv b1),(3,pv b2),(4,pv b3),(22,.agg (wvA (((n*t.aa)+(d*(0-t.aF)))*2)))]) kr<|W4 w23 S23
  refine WO.set #[true,true,true,true,true,true,true,true,true,true,true,true,false,true,false] kr<|WO.new S22 5 [.int .u64 0,.int .u64 0] 162 kr ?_
  intro bd13 w24 S24
  exact WB.mk (S24.erase 0)<|WA.weaken (env':=[(2,pv b1),(3,pv b2),(4,pv b3),(5,pv bd13),(21,.agg (wvA ((n*t.aa)+(d*(0-t.aF)))))]) kr<|W3 bd13 w24 S24
 have W7:∀ (bd13:Nat) (w25:World),Sep w [box bd13 [.int .u64 0,.int .u64 0] 162,box b3 bC 102,box b2 (aN t) 54,box b1 (exL n d) 176] w25→WA prog 160 56 R K160_0 (fun w_=>Sep w [box b3 bC 102,box b2 (aN t) 54,box b1 (exL n d) 176] w_) 4 #[true,true,true,true,true,true,true,true,true,true,false,false,false,true,false] [(2,pv b1),(3,pv b2),(4,pv b3),(5,pv bd13),(14,.agg (wvA (n*t.aa))),(16,.agg (wvA d)),(19,iv (0-t.aF))] w25:=by
  intro bd13 w25 S25
  refine WA.all [10] kr rfl ⟨?_,trivial⟩
  refine WO.set #[true,true,true,true,true,true,true,true,true,true,true,false,false,true,false] kr<|WO.callF 20 142 #[.agg (wvA d),iv (0-t.aF)] eu kr (bG d (0-t.aF) _ cO om) ?_
  rintro _ w26 ⟨rfl,T6⟩
  have S26:Sep w [box bd13 [.int .u64 0,.int .u64 0] 162,box b3 bC 102,box b2 (aN t) 54,box b1 (exL n d) 176] w26:=S25.trans T6
  exact WB.mk (S26.erase 0)<|WA.weaken (env':=[(2,pv b1),(3,pv b2),(4,pv b3),(5,pv bd13),(14,.agg (wvA (n*t.aa))),(20,.agg (wvA (d*(0-t.aF))))]) kr<|W5 bd13 w26 S26
 have W8:∀ (w27:World),Sep w [box b3 bC 102,box b2 (aN t) 54,box b1 (exL n d) 176] w27→WA prog 160 56 R K160_0 (fun w_=>Sep w [box b3 bC 102,box b2 (aN t) 54,box b1 (exL n d) 176] w_) 4 #[true,true,true,true,true,true,true,true,true,true,true,false,false,false,false] [(2,pv b1),(3,pv b2),(4,pv b3),(14,.agg (wvA (n*t.aa))),(20,.agg (wvA (d*(0-t.aF))))] w27:=by
  intro w27 S27
  refine WA.all [11,13] kr rfl ⟨?_,?_,trivial⟩
  refine WO.set #[true,true,true,true,true,true,true,true,true,true,true,true,false,false,false] kr<|WO.callF 21 172 #[.agg (wvA (n*t.aa)),.agg (wvA (d*(0-t.aF)))] hb172 kr (wadd_any (n*t.aa) (d*(0-t.aF)) _) ?_
  rintro _ w28 ⟨rfl,T7⟩
  have S28:Sep w [box b3 bC 102,box b2 (aN t) 54,box b1 (exL n d) 176] w28:=S27.trans T7
  exact WB.mk S28<|WA.weaken (env':=[(2,pv b1),(3,pv b2),(4,pv b3),(21,.agg (wvA ((n*t.aa)+(d*(0-t.aF)))))]) kr<|W6 w28 S28
  refine WO.set #[true,true,true,true,true,true,true,true,true,true,true,false,false,true,false] kr<|WO.new S27 5 [.int .u64 0,.int .u64 0] 162 kr ?_
  intro bd13 w29 S29
  exact WB.mk (S29.erase 0)<|WA.weaken (env':=[(2,pv b1),(3,pv b2),(4,pv b3),(5,pv bd13),(14,.agg (wvA (n*t.aa))),(20,.agg (wvA (d*(0-t.aF))))]) kr<|W5 bd13 w29 S29
 have W9:∀ (w30:World),Sep w [box b3 bC 102,box b2 (aN t) 54,box b1 (exL n d) 176] w30→WA prog 160 56 R K160_0 (fun w_=>Sep w [box b3 bC 102,box b2 (aN t) 54,box b1 (exL n d) 176] w_) 5 #[true,true,true,true,true,true,true,true,true,true,false,false,false,false,false] [(2,pv b1),(3,pv b2),(4,pv b3),(14,.agg (wvA (n*t.aa))),(16,.agg (wvA d)),(19,iv (0-t.aF))] w30:=by
  intro w30 S30
  refine WA.all [10,13] kr rfl ⟨?_,?_,trivial⟩
  refine WO.set #[true,true,true,true,true,true,true,true,true,true,true,false,false,false,false] kr<|WO.callF 20 142 #[.agg (wvA d),iv (0-t.aF)] eu kr (bG d (0-t.aF) _ cO om) ?_
  rintro _ w31 ⟨rfl,T8⟩
  have S31:Sep w [box b3 bC 102,box b2 (aN t) 54,box b1 (exL n d) 176] w31:=S30.trans T8
  exact WB.mk S31<|WA.weaken (env':=[(2,pv b1),(3,pv b2),(4,pv b3),(14,.agg (wvA (n*t.aa))),(20,.agg (wvA (d*(0-t.aF))))]) kr<|W8 w31 S31
  refine WO.set #[true,true,true,true,true,true,true,true,true,true,false,false,false,true,false] kr<|WO.new S30 5 [.int .u64 0,.int .u64 0] 162 kr ?_
  intro bd13 w32 S32
  exact WB.mk (S32.erase 0)<|WA.weaken (env':=[(2,pv b1),(3,pv b2),(4,pv b3),(5,pv bd13),(14,.agg (wvA (n*t.aa))),(16,.agg (wvA d)),(19,iv (0-t.aF))]) kr<|W7 bd13 w32 S32
 have W10:∀ (bd13:Nat) (w33:World),Sep w [box bd13 [.int .u64 0,.int .u64 0] 162,box b3 bC 102,box b2 (aN t) 54,box b1 (exL n d) 176] w33→WA prog 160 56 R K160_0 (fun w_=>Sep w [box b3 bC 102,box b2 (aN t) 54,box b1 (exL n d) 176] w_) 5 #[true,true,true,true,false,true,true,true,true,true,false,false,false,true,false] [(2,pv b1),(3,pv b2),(4,pv b3),(5,pv bd13),(11,.agg (wvA n)),(13,iv t.aa),(16,.agg (wvA d)),(19,iv (0-t.aF))] w33:=by
  intro bd13 w33 S33
  refine WA.all [4] kr rfl ⟨?_,trivial⟩
  refine WO.set #[true,true,true,true,true,true,true,true,true,true,false,false,false,true,false] kr<|WO.callF 14 142 #[.agg (wvA n),iv t.aa] eu kr (bG n t.aa _ cO om) ?_
  rintro _ w34 ⟨rfl,T9⟩
  have S34:Sep w [box bd13 [.int .u64 0,.int .u64 0] 162,box b3 bC 102,box b2 (aN t) 54,box b1 (exL n d) 176] w34:=S33.trans T9
  exact WB.mk (S34.erase 0)<|WA.weaken (env':=[(2,pv b1),(3,pv b2),(4,pv b3),(5,pv bd13),(14,.agg (wvA (n*t.aa))),(16,.agg (wvA d)),(19,iv (0-t.aF))]) kr<|W7 bd13 w34 S34
 have W11:∀ (w35:World),Sep w [box b3 bC 102,box b2 (aN t) 54,box b1 (exL n d) 176] w35→WA prog 160 56 R K160_0 (fun w_=>Sep w [box b3 bC 102,box b2 (aN t) 54,box b1 (exL n d) 176] w_) 6 #[true,true,true,true,false,true,true,true,true,true,false,false,false,false,false] [(2,pv b1),(3,pv b2),(4,pv b3),(11,.agg (wvA n)),(13,iv t.aa),(16,.agg (wvA d)),(19,iv (0-t.aF))] w35:=by
  intro w35 S35
  refine WA.all [4,13] kr rfl ⟨?_,?_,trivial⟩
  refine WO.set #[true,true,true,true,true,true,true,true,true,true,false,false,false,false,false] kr<|WO.callF 14 142 #[.agg (wvA n),iv t.aa] eu kr (bG n t.aa _ cO om) ?_
  rintro _ w36 ⟨rfl,T10⟩
  have S36:Sep w [box b3 bC 102,box b2 (aN t) 54,box b1 (exL n d) 176] w36:=S35.trans T10
  exact WB.mk S36<|WA.weaken (env':=[(2,pv b1),(3,pv b2),(4,pv b3),(14,.agg (wvA (n*t.aa))),(16,.agg (wvA d)),(19,iv (0-t.aF))]) kr<|W9 w36 S36
  refine WO.set #[true,true,true,true,false,true,true,true,true,true,false,false,false,true,false] kr<|WO.new S35 5 [.int .u64 0,.int .u64 0] 162 kr ?_
  intro bd13 w37 S37
  exact WB.mk (S37.erase 0)<|WA.weaken (env':=[(2,pv b1),(3,pv b2),(4,pv b3),(5,pv bd13),(11,.agg (wvA n)),(13,iv t.aa),(16,.agg (wvA d)),(19,iv (0-t.aF))]) kr<|W10 bd13 w37 S37
 refine J.drawAny (fun w_=>Sep w [box b3 bC 102,box b2 (aN t) 54,box b1 (exL n d) 176] w_) S3 15 #[false,false,false,false,false,false,false,false,false,false,false,false,false,false,false] Tryz.mixed kr kr kr ?_
 intro w38 S38
 refine WB.mk S38<|WA.take 0 10 (pv b1) #[true,false,false,false,false,false,false,false,false,false,false,false,false,false,false] kr kr kr (fun _ _=>kr) kr<|WA.takeOK 1 #[true,true,false,false,false,false,false,false,false,false,false,false,false,false,false] kr kr kr kr (fun w_ S_=>OK.ldBox S_ 2 11 162 0 (.agg (wvA n)) kr rfl kr) rfl<|WA.take 2 12 (.pointer (some ⟨b2,4,none⟩)) #[true,true,true,false,false,false,false,false,false,false,false,false,false,false,false] kr kr kr (fun _ _=>kr) kr<|WA.takeOK 3 #[true,true,true,true,false,false,false,false,false,false,false,false,false,false,false] kr kr kr kr (fun w_ S_=>OK.ldBox S_ 1 13 3 4 (iv t.aa) kr rfl kr) rfl<|WA.take 5 15 (.pointer (some ⟨b1,2,none⟩)) #[true,true,true,true,false,true,false,false,false,false,false,false,false,false,false] kr kr kr (fun _ _=>kr) kr<|WA.takeOK 6 #[true,true,true,true,false,true,true,false,false,false,false,false,false,false,false] kr kr kr kr (fun w_ S_=>OK.ldBox S_ 2 16 162 2 (.agg (wvA d)) kr rfl kr) rfl<|WA.take 7 17 (.pointer (some ⟨b2,3,none⟩)) #[true,true,true,true,false,true,true,true,false,false,false,false,false,false,false] kr kr kr (fun _ _=>kr) kr<|WA.takeOK 8 #[true,true,true,true,false,true,true,true,true,false,false,false,false,false,false] kr kr kr kr (fun w_ S_=>OK.ldBox S_ 1 18 3 3 (iv t.aF) kr rfl kr) rfl<|WA.take 9 19 (iv (IntKind.wrap .i64 (0-t.aF))) #[true,true,true,true,false,true,true,true,true,true,false,false,false,false,false] kr kr kr (fun _ _=>kr) kr<|WA.head (iv (0-t.aF)) (congrArg (Value.int .i64) (IntWalk.i64_in _ om)) ?_
 exact WA.weaken (env':=[(2,pv b1),(3,pv b2),(4,pv b3),(11,.agg (wvA n)),(13,iv t.aa),(16,.agg (wvA d)),(19,iv (0-t.aF))]) kr<|W11 w38 S38
end
end Go.Proofs.YtaoolgcddapegaaGreat
