/- Walks of functions of this seat, printed by a program over the engine. Conditions: as each theorem says. -/
import Derived.Test.YtaoolgcddapegaaGreatProg
import Derived.Test.YtaoolgcddapegaaGreatZqEng9
set_option linter.unusedSimpArgs false
set_option linter.unusedVariables false
namespace Go.Proofs.YtaoolgcddapegaaGreat
noncomputable section
open Go.Eng Go.RowKit Go.Proofs.Tryz
set_option maxRecDepth 20000
set_option maxHeartbeats 20000000
theorem Tryz.mixed:prog.follows .mixedOrders=true:=by kernel_rfl
def aR (n:Int):Int:=(n.natAbs:Int)
theorem eq (n:Int):IntKind.wrap .u64 n=n%18446744073709551616:=by simp[IntKind.wrap,IntKind.bits,IntKind.signed]
theorem mul64 {x y:Int} (hx:0≤x∧x≤18446744073709551615) (hy:0≤y∧y≤18446744073709551615) :
    (0≤(x%4294967296)*(y%4294967296)∧(x%4294967296)*(y%4294967296)≤18446744065119617025) ∧
    (0≤(x/4294967296)*(y%4294967296)∧(x/4294967296)*(y%4294967296)≤18446744065119617025) ∧
    (0≤(x%4294967296)*(y/4294967296)∧(x%4294967296)*(y/4294967296)≤18446744065119617025) ∧
    (0≤(x/4294967296)*(y/4294967296)∧(x/4294967296)*(y/4294967296)≤18446744065119617025) ∧
    (0≤x*y∧x*y≤340282366920938463426481119284349108225) ∧
    x*y=(x/4294967296)*(y/4294967296)*18446744073709551616+((x/4294967296)*(y%4294967296)+(x%4294967296)*(y/4294967296))*4294967296+(x%4294967296)*(y%4294967296):=by
  have hb:∀ {a b:Int},0≤a∧a≤4294967295→0≤b∧b≤4294967295→0≤a*b∧a*b≤18446744065119617025:=fun ha hb =>
    ⟨Int.mul_nonneg ha.1 hb.1,Int.le_trans (Int.mul_le_mul ha.2 hb.2 hb.1 om) dE⟩
  refine⟨hb om om,hb om om,hb om om,hb om om,⟨Int.mul_nonneg hx.1 hy.1,Int.le_trans (Int.mul_le_mul hx.2 hy.2 hy.1 om) dE⟩,?_⟩
  have e1:x=x/4294967296*4294967296+x%4294967296:=by omega
  have e2:y=y/4294967296*4294967296+y%4294967296:=by omega
  generalize x/4294967296=a at *
  generalize y/4294967296=b at *
  generalize x%4294967296=c at *
  generalize y%4294967296=d at *
  subst e1 e2
  grind
theorem hb178:af prog 178:=fun _ _=>by kernel_rfl

theorem mag_any (n:Int) (w:World) (hn:(-9223372036854775808)≤n∧n≤9223372036854775807):Ret prog 178 #[.int .i64 n] w (fun v w'=>v=.int .u64 (aR n)∧Sep w [] w'):=by
 refine Ret.st (N:=12) func178 fun R hR S0=>J.c 10 [] [] [] 4 (n<0) (fun fk1=>?_) fun fk1=>?_
 refine J.wi 5 [true] [] [] 6 (n+1)<|J.wi 1 [] [] [] 7 (0-(n+1))<|J.h 1 [] [] [] 8 (.int .u64 (IntKind.wrap .u64 (0-(n+1)))) (.int .u64 (0-(n+1))) (congrArg (Value.int .u64) (IntWalk.u64_in _ om))<|J.h 1 [] [] [] 9 (.int .u64 (IntKind.wrap .u64 ((0-(n+1))+1))) (.int .u64 ((0-(n+1))+1)) (congrArg (Value.int .u64) (IntWalk.u64_in _ om))<|J.e 2 [.int .u64 ((0-(n+1))+1)] func178 (hR _ _ ?_)
 exact⟨by rw[cw];exact congrArg (Value.int .u64) (by (try simp only[eq]);unfold aR;omega),S0.nil⟩
 refine J.h 6 [false] [] [] 11 (.int .u64 (IntKind.wrap .u64 n)) (.int .u64 n) (congrArg (Value.int .u64) (IntWalk.u64_in _ om))<|J.e 2 [.int .u64 n] func178 (hR _ _ ?_)
 exact⟨by rw[cw];exact congrArg (Value.int .u64) (by (try simp only[eq]);unfold aR;omega),S0.nil⟩

theorem mag_le (n:Int) (h: -9223372036854775808≤n∧n≤9223372036854775807):0≤aR n∧aR n≤9223372036854775808∧(n=0∨1≤aR n):=by unfold aR;omega
theorem hb175:af prog 175:=fun _ _=>by kernel_rfl

theorem size_any (n:Int) (w:World) (hn:(-9223372036854775808)≤n∧n≤9223372036854775807):Ret prog 175 #[.int .i64 n] w (fun v w'=>v=.int .u64 (aR n)∧Sep w [] w'):=by
 refine Ret.st (N:=10) func175 fun R hR S0=>J.c 10 [] [] [] 4 (n<0) (fun fk1=>?_) fun fk1=>?_
 refine J.e 8 [.int .u64 (IntKind.wrap .u64 (0-(IntKind.wrap .u64 n)))] func175 (hR _ _ ?_)
 exact⟨by rw[cw];exact congrArg (Value.int .u64) (by (try simp only[eq]);unfold aR;omega),S0.nil⟩
 refine J.e 8 [.int .u64 (IntKind.wrap .u64 n)] func175 (hR _ _ ?_)
 exact⟨by rw[cw];exact congrArg (Value.int .u64) (by (try simp only[eq]);unfold aR;omega),S0.nil⟩

theorem hb180:af prog 180:=fun _ _=>by kernel_rfl

theorem hb166:af prog 166:=fun _ _=>by kernel_rfl

theorem mul64_any (x y:Int) (w:World) (hx:0≤x∧x≤18446744073709551615) (hy:0≤y∧y≤18446744073709551615):Ret prog 166 #[.int .u64 x,.int .u64 y] w (fun v w'=>v=.tuple #[.int .u64 (x*y/18446744073709551616),.int .u64 (x*y%18446744073709551616)]∧Sep w [] w'):=by
 refine Ret.st (N:=51) func166 fun R hR S0=>?_
 obtain ⟨hm1,hm2,hm3,hm4,hm6,hm5⟩:=mul64 hx hy
 refine J.h 9 [] [] [] 15 (.int .u64 (IntKind.wrap .u64 ((BitVec.ofInt 64 x &&& (BitVec.ofInt 64 (4294967295:Int))).toNat:Int))) (.int .u64 (x%4294967296)) (congrArg (Value.int .u64) (dT 32 _ _ rF dE))<|J.h 6 [] [(6,.int .u64 (x%4294967296))] [] 17 (.int .u64 (Int.fdiv x (2^32))) (.int .u64 (x/4294967296)) (congrArg (Value.int .u64) (dl _ _ dE))<|J.h 6 [] [(7,.int .u64 (x/4294967296))] [] 19 (.int .u64 (IntKind.wrap .u64 ((BitVec.ofInt 64 y &&& (BitVec.ofInt 64 (4294967295:Int))).toNat:Int))) (.int .u64 (y%4294967296)) (congrArg (Value.int .u64) (dT 32 _ _ rF dE))<|J.h 6 [] [(8,.int .u64 (y%4294967296))] [] 21 (.int .u64 (Int.fdiv y (2^32))) (.int .u64 (y/4294967296)) (congrArg (Value.int .u64) (dl _ _ dE))<|J.h 7 [] [(9,.int .u64 (y/4294967296))] [] 24 (.int .u64 (IntKind.wrap .u64 ((x%4294967296)*(y%4294967296)))) (.int .u64 ((x%4294967296)*(y%4294967296))) (congrArg (Value.int .u64) (IntWalk.u64_in _ om))<|J.h 7 [] [(10,.int .u64 ((x%4294967296)*(y%4294967296)))] [] 27 (.int .u64 (IntKind.wrap .u64 ((x/4294967296)*(y%4294967296)))) (.int .u64 ((x/4294967296)*(y%4294967296))) (congrArg (Value.int .u64) (IntWalk.u64_in _ om))<|J.h 2 [] [] [] 29 (.int .u64 (Int.fdiv ((x%4294967296)*(y%4294967296)) (2^32))) (.int .u64 (((x%4294967296)*(y%4294967296))/4294967296)) (congrArg (Value.int .u64) (dl _ _ dE))<|J.h 1 [] [] [] 30 (.int .u64 (IntKind.wrap .u64 (((x/4294967296)*(y%4294967296))+(((x%4294967296)*(y%4294967296))/4294967296)))) (.int .u64 (((x/4294967296)*(y%4294967296))+(((x%4294967296)*(y%4294967296))/4294967296))) (congrArg (Value.int .u64) (IntWalk.u64_in _ om))<|J.h 6 [] [(11,.int .u64 (((x/4294967296)*(y%4294967296))+(((x%4294967296)*(y%4294967296))/4294967296)))] [] 32 (.int .u64 (IntKind.wrap .u64 ((BitVec.ofInt 64 (((x/4294967296)*(y%4294967296))+(((x%4294967296)*(y%4294967296))/4294967296)) &&& (BitVec.ofInt 64 (4294967295:Int))).toNat:Int))) (.int .u64 ((((x/4294967296)*(y%4294967296))+(((x%4294967296)*(y%4294967296))/4294967296))%4294967296)) (congrArg (Value.int .u64) (dT 32 _ _ rF dE))<|J.h 6 [] [(12,.int .u64 ((((x/4294967296)*(y%4294967296))+(((x%4294967296)*(y%4294967296))/4294967296))%4294967296))] [] 34 (.int .u64 (Int.fdiv (((x/4294967296)*(y%4294967296))+(((x%4294967296)*(y%4294967296))/4294967296)) (2^32))) (.int .u64 ((((x/4294967296)*(y%4294967296))+(((x%4294967296)*(y%4294967296))/4294967296))/4294967296)) (congrArg (Value.int .u64) (dl _ _ dE))<|J.h 8 [] [(35,.int .u64 ((((x/4294967296)*(y%4294967296))+(((x%4294967296)*(y%4294967296))/4294967296))%4294967296)),(13,.int .u64 ((((x/4294967296)*(y%4294967296))+(((x%4294967296)*(y%4294967296))/4294967296))/4294967296))] [] 38 (.int .u64 (IntKind.wrap .u64 ((x%4294967296)*(y/4294967296)))) (.int .u64 ((x%4294967296)*(y/4294967296))) (congrArg (Value.int .u64) (IntWalk.u64_in _ om)) ?_
 refine J.h 1 [] [] [] 39 (.int .u64 (IntKind.wrap .u64 (((((x/4294967296)*(y%4294967296))+(((x%4294967296)*(y%4294967296))/4294967296))%4294967296)+((x%4294967296)*(y/4294967296))))) (.int .u64 (((((x/4294967296)*(y%4294967296))+(((x%4294967296)*(y%4294967296))/4294967296))%4294967296)+((x%4294967296)*(y/4294967296)))) (congrArg (Value.int .u64) (IntWalk.u64_in _ om))<|J.h 7 [] [(12,.int .u64 (((((x/4294967296)*(y%4294967296))+(((x%4294967296)*(y%4294967296))/4294967296))%4294967296)+((x%4294967296)*(y/4294967296))))] [] 42 (.int .u64 (IntKind.wrap .u64 ((x/4294967296)*(y/4294967296)))) (.int .u64 ((x/4294967296)*(y/4294967296))) (congrArg (Value.int .u64) (IntWalk.u64_in _ om))<|J.h 2 [] [] [] 44 (.int .u64 (IntKind.wrap .u64 (((x/4294967296)*(y/4294967296))+((((x/4294967296)*(y%4294967296))+(((x%4294967296)*(y%4294967296))/4294967296))/4294967296)))) (.int .u64 (((x/4294967296)*(y/4294967296))+((((x/4294967296)*(y%4294967296))+(((x%4294967296)*(y%4294967296))/4294967296))/4294967296))) (congrArg (Value.int .u64) (IntWalk.u64_in _ om))<|J.h 2 [] [] [] 46 (.int .u64 (Int.fdiv (((((x/4294967296)*(y%4294967296))+(((x%4294967296)*(y%4294967296))/4294967296))%4294967296)+((x%4294967296)*(y/4294967296))) (2^32))) (.int .u64 ((((((x/4294967296)*(y%4294967296))+(((x%4294967296)*(y%4294967296))/4294967296))%4294967296)+((x%4294967296)*(y/4294967296)))/4294967296)) (congrArg (Value.int .u64) (dl _ _ dE))<|J.h 1 [] [] [] 47 (.int .u64 (IntKind.wrap .u64 ((((x/4294967296)*(y/4294967296))+((((x/4294967296)*(y%4294967296))+(((x%4294967296)*(y%4294967296))/4294967296))/4294967296))+((((((x/4294967296)*(y%4294967296))+(((x%4294967296)*(y%4294967296))/4294967296))%4294967296)+((x%4294967296)*(y/4294967296)))/4294967296)))) (.int .u64 ((((x/4294967296)*(y/4294967296))+((((x/4294967296)*(y%4294967296))+(((x%4294967296)*(y%4294967296))/4294967296))/4294967296))+((((((x/4294967296)*(y%4294967296))+(((x%4294967296)*(y%4294967296))/4294967296))%4294967296)+((x%4294967296)*(y/4294967296)))/4294967296))) (congrArg (Value.int .u64) (IntWalk.u64_in _ om))<|J.e 9 [.int .u64 ((((x/4294967296)*(y/4294967296))+((((x/4294967296)*(y%4294967296))+(((x%4294967296)*(y%4294967296))/4294967296))/4294967296))+((((((x/4294967296)*(y%4294967296))+(((x%4294967296)*(y%4294967296))/4294967296))%4294967296)+((x%4294967296)*(y/4294967296)))/4294967296)),.int .u64 (IntKind.wrap .u64 (x*y))] func166 (hR _ _ ?_)
 have e1:(((x/4294967296)*(y/4294967296))+((((x/4294967296)*(y%4294967296))+(((x%4294967296)*(y%4294967296))/4294967296))/4294967296))+((((((x/4294967296)*(y%4294967296))+(((x%4294967296)*(y%4294967296))/4294967296))%4294967296)+((x%4294967296)*(y/4294967296)))/4294967296)=x*y/18446744073709551616:=by omega
 exact⟨by rw[dX,eq,e1],S0.nil⟩

def mdX (a _b c _m:Int):Int:=if c<0 then (-a)/(-c) else a/c
theorem floor_val {a b:Int} (ha: -9223372036854775808≤a∧a≤9223372036854775807) (hb:b≠0∧b≠ -1):mdX a 1 b 1=if b<0 then (-a)/(-b) else a/b:=rfl
theorem floor_abs {a c:Int} (hc:1≤c):mdX a 1 c 1=if a<0 then -(aR a/c+(if 0<aR a%c then 1 else 0)) else aR a/c:=by
  unfold mdX aR
  rw[if_neg om]
  split
  · rename_i h
    have e:(a.natAbs:Int)= -a:=by omega
    rw[e]
    have h1:=Int.mul_ediv_add_emod (-a) c
    have h2:=Int.emod_nonneg (-a) (show c≠0 by omega)
    have h3:=Int.emod_lt_of_pos (-a) (show 0<c by omega)
    obtain ⟨q,hq⟩:∃ q,q= -a/c:=⟨_,rfl⟩
    obtain ⟨r,hr⟩:∃ r,r= -a%c:=⟨_,rfl⟩
    rw[← hq,← hr] at h1
    rw[← hr] at h2 h3
    rw[← hq,← hr]
    have m1:c*(-q)= -(c*q):=Int.mul_neg c q
    have m2:c*(-(q+1))= -(c*q)-c:=by rw[Int.mul_neg,Int.mul_add,Int.mul_one];omega
    split
    · exact((Int.ediv_emod_unique (show 0<c by omega)).2 ⟨show c-r+c*(-(q+1))=a by omega,om,om⟩).1
    · rw[Int.add_zero];exact((Int.ediv_emod_unique (show 0<c by omega)).2 ⟨show 0+c*(-q)=a by omega,om,om⟩).1
  · rename_i h
    rw[show(a.natAbs:Int)=a by omega]
theorem mag_pos {c:Int} (h:1≤c):aR c=c:=by unfold aR;omega
theorem dv_bd {x c:Int} (hx:0≤x) (hc:1≤c):(0≤x/c∧x/c≤x)∧(0≤x%c∧x%c<c)∧x/c+x%c≤x:=by
  have h1:=Int.ediv_nonneg hx (show 0≤c by omega)
  have h2:=Int.mul_ediv_add_emod x c
  have h3:=Int.mul_le_mul_of_nonneg_right hc h1
  have h4:=Int.emod_nonneg x (show c≠0 by omega)
  exact⟨⟨h1,Int.ediv_le_self _ hx⟩,⟨h4,Int.emod_lt_of_pos _ om⟩,om⟩
theorem neg_wrap {q:Int} (h:0≤q∧q≤9223372036854775808):IntKind.wrap .i64 (IntKind.wrap .i64 (0-IntKind.wrap .i64 (IntKind.wrap .u64 (q-1)))-1)= -q:=by
  rw[eq]
  by_cases h0:q=0
  · subst h0;decide
  · have a1:=IntWalk.i64_in (q-1) om
    have a2:=IntWalk.i64_in (0-(q-1)) om
    have a3:=IntWalk.i64_in (0-(q-1)-1) om
    rw[show(q-1)%18446744073709551616=q-1 by omega,a1,a2,a3];omega
theorem neg_conv {q:Int} (h:0≤q∧q≤9223372036854775808):IntKind.wrap .i64 (IntKind.wrap .u64 (0-q))= -q:=by
  rw[eq,IntKind.wrap_i64];omega
theorem half_step (x:Int) {i:Int} (h:0≤i):x/2^i.toNat=2*(x/2^(i+1).toNat)+x/2^i.toNat%2:=by
  rw[show(i+1).toNat=i.toNat+1 by omega,Int.pow_succ,← Int.ediv_ediv_of_nonneg (Int.le_of_lt (Int.pow_pos om))];omega
theorem top_zero {x:Int} (h:0≤x∧x≤18446744073709551615):x/2^(63+1:Int).toNat=0:=by
  rw[show(63+1:Int).toNat=64 from rfl,show(2:Int)^64=18446744073709551616 from rfl];omega
theorem dbq {q c b:Int}:(2*q+b)*c=2*(q*c)+b*c:=by rw[Int.add_mul,Int.mul_assoc]
theorem dv_of {x c q r:Int} (h:x=q*c+r) (h0:0≤r) (h1:r<c):x/c=q∧x%c=r:=(Int.ediv_emod_unique (show 0<c by omega)).2 ⟨by rw[Int.mul_comm];omega,h0,h1⟩
theorem q_fit {x c q r:Int} {i:Int} (hx:0≤x∧x≤18446744073709551615) (hi:0≤i) (hc:1≤c) (h:x/2^(i+1).toNat=q*c+r) (h0:0≤r) (hq:0≤q):q≤9223372036854775807:=by
  have h1:x/2^(i+1).toNat≤9223372036854775807:=by
    rw[show(i+1).toNat=i.toNat+1 by omega,Int.pow_succ,← Int.ediv_ediv_of_nonneg (Int.le_of_lt (Int.pow_pos om))]
    have:=Int.ediv_le_self (a:=x) (2^i.toNat) hx.1
    omega
  have:=Int.mul_le_mul_of_nonneg_left hc hq
  omega
theorem ediv_of {x d k:Int} (hd:0<d) (h1:k*d≤x) (h2:x<k*d+d):x/d=k:=by
  rw[show x=(x-k*d)+k*d by omega,Int.add_mul_ediv_right _ _ om,Int.ediv_eq_zero_of_lt om om,Int.zero_add]
theorem tmod_facts {a b:Int} (hb:b≠0):∃ k,a=b*k+Int.tmod a b∧a=b*(k-1)+(Int.tmod a b+b)∧(0≤a→0≤Int.tmod a b)∧(a≤0→Int.tmod a b≤0)∧(0<b→ -b<Int.tmod a b∧Int.tmod a b<b)∧(b<0→b<Int.tmod a b∧Int.tmod a b< -b):=by
  have h0:=Int.mul_tdiv_add_tmod a b
  have hs:(Int.tmod a b).natAbs<b.natAbs:=by
    rw[Int.natAbs_tmod];exact Nat.mod_lt _ om
  have h1:0≤a→0≤Int.tmod a b:=fun h=>Int.tmod_nonneg _ h
  have h2:a≤0→Int.tmod a b≤0:=fun h=>by
    have:=Int.tmod_nonneg b (a:= -a) om
    rw[Int.neg_tmod] at this;omega
  refine⟨Int.tdiv a b,om,?_,h1,h2,fun h=>om,fun h=>om⟩
  rw[Int.mul_sub,Int.mul_one];omega
theorem shr_s {x sh:Int} {s:Nat} (h:sh.toNat=s) (hs:s≤64):x.fdiv (2^min sh.toNat (IntKind.bits .u64))=x/2^s:=by
  rw[h,show min s (IntKind.bits .u64)=s from Nat.min_eq_left (show s≤64 by omega),Int.fdiv_eq_ediv_of_nonneg _ (Int.le_of_lt (Int.pow_pos om))]
theorem mul64_one (x:Int) (w:World) (hx:0≤x∧x≤18446744073709551615):Ret prog 166 #[.int .u64 x,.int .u64 1] w (fun v w'=>v=.tuple #[.int .u64 0,.int .u64 x]∧Sep w [] w'):=by
  have h:=mul64_any x 1 w hx om
  rwa [Int.mul_one,show x/18446744073709551616=0 by omega,show x%18446744073709551616=x by omega] at h

theorem mag_one  (w:World):Ret prog 178 #[.int .i64 1] w (fun v w'=>v=.int .u64 1∧Sep w [] w'):=by
 refine Ret.st (N:=12) func178 fun R hR S0=>J.e 18 [.int .u64 1] func178 (hR _ _ ?_)
 exact⟨rfl,S0.nil⟩

theorem size_one  (w:World):Ret prog 175 #[.int .i64 1] w (fun v w'=>v=.int .u64 1∧Sep w [] w'):=by
 refine Ret.st (N:=10) func175 fun R hR S0=>J.e 18 [.int .u64 1] func175 (hR _ _ ?_)
 exact⟨rfl,S0.nil⟩

theorem hb179:af prog 179:=fun _ _=>by kernel_rfl

theorem div64_low (lo y:Int) (w:World) (hl:0≤lo∧lo≤18446744073709551615) (hy:1≤y∧y≤18446744073709551615):Ret prog 179 #[.int .u64 0,.int .u64 lo,.int .u64 y] w (fun v w'=>v=.tuple #[.int .u64 (lo/y),.int .u64 (lo%y)]∧Sep w [] w'):=by
 refine Ret.st (N:=135) func179 fun R hR S0=>?_
 have fk2:¬ (y=0):=by omega
 refine J.h 11 [] [] [] 20 (.bool (y==0)) (.bool false) (congrArg Value.bool (beq_eq_false_iff_ne.2 fk2)) ?_
 have fk4:¬ (y≤0):=by omega
 refine J.h 9 [false] [] [] 24 (.bool (decide (y≤0))) (.bool false) (congrArg Value.bool (decide_eq_false fk4))<|J.r 10 [false,true] [] []<|J.drawStill S0 8 Tryz.mixed kr kr kr ?_
 intro w1 S1
 refine SL.r 28 (.int .u64 lo)<|SL.r 29 (.int .u64 y)<|SL.ok dE (OK.quo 30 .u64 lo y kr om)<|SL.head (.int .u64 (lo/y)) (congrArg (Value.int .u64) (IntWalk.u64_quo _ _ om))<|SL.r 31 (.int .u64 lo)<|SL.r 32 (.int .u64 y)<|SL.ok dE (OK.rem 33 .u64 lo y kr om)<|SL.head (.int .u64 (lo%y)) (congrArg (Value.int .u64) (IntWalk.rem_in _ _ om))<|SL.r 6 (.int .u64 (lo/y))<|SL.r 7 (.int .u64 (lo%y))<|SL.done ?_
 refine TL.done kr<|J.e 0 [.int .u64 (lo/y),.int .u64 (lo%y)] func179 (hR _ _ ?_)
 exact⟨rfl,S1.nil⟩

theorem rounded_down (r c:Int) (neg:Bool) (w:World):Ret prog 180 #[.int .u64 r,.int .u64 c,.bool neg,.int .i64 1] w (fun v w'=>v=.bool (neg&&decide (0<r))∧Sep w [] w'):=by
 refine Ret.st (N:=36) func180 fun R hR S0=>J.b 20 [true] [] [] 13 neg (fun fk1=>?_) fun fk1=>?_
 refine J.e 5 [.bool (decide (r>0))] func180 (hR _ _ ?_)
 exact⟨congrArg Value.bool (by rw[fk1];rfl),S0.nil⟩
 refine J.e 5 [.bool false] func180 (hR _ _ ?_)
 exact⟨congrArg Value.bool (by rw[fk1];rfl),S0.nil⟩

theorem hb171:af prog 171:=fun _ _=>by kernel_rfl

theorem muldiv_down (a c:Int) (w:World) (ha: -9223372036854775808≤a∧a≤9223372036854775807) (hc:1≤c∧c≤9223372036854775807):Ret prog 171 #[.int .i64 a,.int .i64 1,.int .i64 c,.int .i64 1] w (fun v w'=>v=.tuple #[.int .i64 (mdX a 1 c 1),.int .i64 0]∧Sep w [] w'):=by
 refine Ret.st (N:=83) func171 fun R hR S0=>?_
 have hm:=mag_le a om
 have hmv:(a<0∧aR a= -a)∨(0≤a∧aR a=a):=by unfold aR;omega
 have hmc:=mag_pos (c:=c) om
 have hdb:=dv_bd (x:=aR a) (c:=aR c) om om
 have hfl:mdX a 1 c 1=if a<0 then -(aR a/aR c+(if 0<aR a%aR c then 1 else 0)) else aR a/aR c:=by rw[hmc];exact floor_abs om
 have fk2:¬ (c=0):=by omega
 refine J.h 24 [false] [] [] 23 (.bool (c==0)) (.bool false) (congrArg Value.bool (beq_eq_false_iff_ne.2 fk2))<|J.r 13 [false] [(33,.bool (!((!((decide (a<0))==false))==(decide (c<0)))))] [] ?_
 obtain ⟨neg,hneg⟩:∃ x:Bool,x=(!((!((decide (a<0))==false))==(decide (c<0)))):=⟨_,rfl⟩
 refine J.head (.bool neg) (congrArg Value.bool hneg.symm) ?_
 have hneg2:neg=true↔a<0:=by rw[hneg];simp;omega
 have:=mag_le a om
 refine J.c0 5 [] [(10,.bool neg)] [] S0 36 hb178 (mag_any a _ om) fun w1 S1=>J.c0 1 [] [] [] S1 38 hb178 (mag_one  _) fun w2 S2=>J.c0 0 [] [] [] S2 39 hb166 (mul64_one (aR a) _ om) fun w3 S3=>?_
 have:=mag_le c om
 refine J.c0 9 [] [(12,.int .u64 (aR a)),(11,.int .u64 0)] [] S3 43 hb178 (mag_any c _ om) fun w4 S4=>?_
 have fk4:¬ (0≥(aR c)):=by omega
 refine J.h 9 [] [(13,.int .u64 (aR c))] [] 46 (.bool (decide (0≥(aR c)))) (.bool false) (congrArg Value.bool (decide_eq_false fk4))<|J.c0 7 [false] [] [] S4 51 hb179 (div64_low (aR a) (aR c) _ om om) fun w5 S5=>J.c 12 [] [(15,.int .u64 ((aR a)%(aR c))),(14,.int .u64 ((aR a)/(aR c)))] [] 55 (((aR a)/(aR c))>9223372036854775808) (fun fk5=>?_) fun fk5=>?_
 refine J.e 6 [.int .i64 0,.int .i64 9] func171 (hR _ _ ?_)
 exfalso;omega
 rcases Bool.eq_false_or_eq_true neg with fk6 | fk6
 have fb1:=hneg2.1 fk6
 by_cases fk7:((aR a)%(aR c))>0
 refine J.c0 9 [false] [] [] S5 60 hb180 (rounded_down ((aR a)%(aR c)) (aR c) neg _) fun w6 S6=>J.head (.bool true) (congrArg Value.bool (by rw[fk6,decide_eq_true om];rfl))<|J.h 5 [true] [] [] 62 (.int .u64 (IntKind.wrap .u64 (((aR a)/(aR c))+1))) (.int .u64 (((aR a)/(aR c))+1)) (congrArg (Value.int .u64) (IntWalk.u64_in _ om))<|J.h 8 [] [(14,.int .u64 (((aR a)/(aR c))+1))] [] 65 (.bool neg) (.bool true) (congrArg Value.bool fk6)<|J.c 5 [] [] [] 63 ((((aR a)/(aR c))+1)≤9223372036854775808) (fun fk9=>?_) fun fk9=>?_
 refine J.h 8 [true] [] [] 73 (.int .i64 (IntKind.wrap .i64 ((IntKind.wrap .i64 (0-(IntKind.wrap .i64 (IntKind.wrap .u64 ((((aR a)/(aR c))+1)-1)))))-1))) (.int .i64 (-(((aR a)/(aR c))+1))) (congrArg (Value.int .i64) (neg_wrap om))<|J.e 3 [.int .i64 (-(((aR a)/(aR c))+1)),.int .i64 0] func171 (hR _ _ ?_)
 have e1:mdX a 1 c 1= -(((aR a)/(aR c))+1):=by rw[hfl];(repeat' split)<;>omega
 exact⟨by rw[e1];rfl,S6.nil⟩
 refine J.h 6 [false] [] [] 77 (.bool (!neg)) (.bool false) (congrArg Value.bool (by rw[fk6];rfl))<|J.e 13 [.int .i64 0,.int .i64 9] func171 (hR _ _ ?_)
 exfalso;omega
 refine J.c0 9 [false] [] [] S5 60 hb180 (rounded_down ((aR a)%(aR c)) (aR c) neg _) fun w7 S7=>J.head (.bool false) (congrArg Value.bool (by rw[fk6,decide_eq_false om];rfl))<|J.h 9 [false] [] [] 65 (.bool neg) (.bool true) (congrArg Value.bool fk6)<|J.c 5 [] [] [] 63 (((aR a)/(aR c))≤9223372036854775808) (fun fk12=>?_) fun fk12=>?_
 refine J.h 8 [true] [] [] 73 (.int .i64 (IntKind.wrap .i64 ((IntKind.wrap .i64 (0-(IntKind.wrap .i64 (IntKind.wrap .u64 (((aR a)/(aR c))-1)))))-1))) (.int .i64 (-((aR a)/(aR c)))) (congrArg (Value.int .i64) (neg_wrap om))<|J.e 3 [.int .i64 (-((aR a)/(aR c))),.int .i64 0] func171 (hR _ _ ?_)
 have e1:mdX a 1 c 1= -((aR a)/(aR c)):=by rw[hfl];(repeat' split)<;>omega
 exact⟨by rw[e1];rfl,S7.nil⟩
 refine J.h 6 [false] [] [] 77 (.bool (!neg)) (.bool false) (congrArg Value.bool (by rw[fk6];rfl))<|J.e 13 [.int .i64 0,.int .i64 9] func171 (hR _ _ ?_)
 exfalso;omega
 have fb2:=mt hneg2.2 (by rw[fk6];decide)
 refine J.c0 9 [false] [] [] S5 60 hb180 (rounded_down ((aR a)%(aR c)) (aR c) neg _) fun w8 S8=>J.head (.bool false) (congrArg Value.bool (by rw[fk6];rfl))<|J.h 9 [false] [] [] 65 (.bool neg) (.bool false) (congrArg Value.bool fk6)<|J.h 11 [false] [] [] 77 (.bool (!neg)) (.bool true) (congrArg Value.bool (by rw[fk6];rfl))<|J.c 5 [] [] [] 74 (((aR a)/(aR c))<9223372036854775808) (fun fk16=>?_) fun fk16=>?_
 refine J.wi 5 [true] [] [] 82 ((aR a)/(aR c))<|J.e 3 [.int .i64 ((aR a)/(aR c)),.int .i64 0] func171 (hR _ _ ?_)
 have e1:mdX a 1 c 1=(aR a)/(aR c):=by rw[hfl];(repeat' split)<;>omega
 exact⟨by rw[e1];rfl,S8.nil⟩
 refine J.e 8 [.int .i64 0,.int .i64 9] func171 (hR _ _ ?_)
 exfalso;omega

theorem hb177:af prog 177:=fun _ _=>by kernel_rfl

theorem times_one (x:Int) (w:World) (hx:0≤x∧x≤18446744073709551615):Ret prog 177 #[.int .u64 x,.int .u64 1] w (fun v w'=>v=.agg #[.int .u64 0,.int .u64 x]∧Sep w [] w'):=by
 refine Ret.st (N:=50) func177 fun R hR S0=>J.nw 2 [] [] [] S0 4 [.int .u64 0,.int .u64 0] 195 fun b1 w1 S1=>J.h 5 [] [] [] 13 (.int .u64 (IntKind.wrap .u64 ((BitVec.ofInt 64 x &&& (BitVec.ofInt 64 (4294967295:Int))).toNat:Int))) (.int .u64 (x%4294967296)) (congrArg (Value.int .u64) (dT 32 _ _ rF dE))<|J.h 2 [] [] [] 15 (.int .u64 (Int.fdiv x (2^32))) (.int .u64 (x/4294967296)) (congrArg (Value.int .u64) (dl _ _ dE))<|J.h 14 [] [(8,.int .u64 0),(7,.int .u64 1),(6,.int .u64 (x/4294967296)),(5,.int .u64 (x%4294967296))] [] 22 (.int .u64 (IntKind.wrap .u64 ((x%4294967296)*1))) (.int .u64 ((x%4294967296)*1)) (congrArg (Value.int .u64) (IntWalk.u64_in _ om))<|J.h 7 [] [(9,.int .u64 ((x%4294967296)*1))] [] 25 (.int .u64 (IntKind.wrap .u64 ((x/4294967296)*1))) (.int .u64 ((x/4294967296)*1)) (congrArg (Value.int .u64) (IntWalk.u64_in _ om))<|J.h 2 [] [] [] 27 (.int .u64 (Int.fdiv ((x%4294967296)*1) (2^32))) (.int .u64 (((x%4294967296)*1)/4294967296)) (congrArg (Value.int .u64) (dl _ _ dE))<|J.h 1 [] [] [] 28 (.int .u64 (IntKind.wrap .u64 (((x/4294967296)*1)+(((x%4294967296)*1)/4294967296)))) (.int .u64 (((x/4294967296)*1)+(((x%4294967296)*1)/4294967296))) (congrArg (Value.int .u64) (IntWalk.u64_in _ om))<|J.h 7 [] [(10,.int .u64 (((x/4294967296)*1)+(((x%4294967296)*1)/4294967296)))] [] 31 (.int .u64 (IntKind.wrap .u64 ((x%4294967296)*0))) (.int .u64 ((x%4294967296)*0)) (congrArg (Value.int .u64) (IntWalk.u64_in _ om))<|J.h 2 [] [] [] 33 (.int .u64 (IntKind.wrap .u64 ((BitVec.ofInt 64 (((x/4294967296)*1)+(((x%4294967296)*1)/4294967296)) &&& (BitVec.ofInt 64 (4294967295:Int))).toNat:Int))) (.int .u64 ((((x/4294967296)*1)+(((x%4294967296)*1)/4294967296))%4294967296)) (congrArg (Value.int .u64) (dT 32 _ _ rF dE))<|J.h 1 [] [] [] 34 (.int .u64 (IntKind.wrap .u64 (((x%4294967296)*0)+((((x/4294967296)*1)+(((x%4294967296)*1)/4294967296))%4294967296)))) (.int .u64 (((x%4294967296)*0)+((((x/4294967296)*1)+(((x%4294967296)*1)/4294967296))%4294967296))) (congrArg (Value.int .u64) (IntWalk.u64_in _ om)) ?_
 refine J.h 7 [] [(11,.int .u64 (((x%4294967296)*0)+((((x/4294967296)*1)+(((x%4294967296)*1)/4294967296))%4294967296)))] [] 37 (.int .u64 (IntKind.wrap .u64 ((x/4294967296)*0))) (.int .u64 ((x/4294967296)*0)) (congrArg (Value.int .u64) (IntWalk.u64_in _ om))<|J.h 2 [] [] [] 39 (.int .u64 (Int.fdiv (((x/4294967296)*1)+(((x%4294967296)*1)/4294967296)) (2^32))) (.int .u64 ((((x/4294967296)*1)+(((x%4294967296)*1)/4294967296))/4294967296)) (congrArg (Value.int .u64) (dl _ _ dE))<|J.h 1 [] [] [] 40 (.int .u64 (IntKind.wrap .u64 (((x/4294967296)*0)+((((x/4294967296)*1)+(((x%4294967296)*1)/4294967296))/4294967296)))) (.int .u64 (((x/4294967296)*0)+((((x/4294967296)*1)+(((x%4294967296)*1)/4294967296))/4294967296))) (congrArg (Value.int .u64) (IntWalk.u64_in _ om))<|J.h 2 [] [] [] 42 (.int .u64 (Int.fdiv (((x%4294967296)*0)+((((x/4294967296)*1)+(((x%4294967296)*1)/4294967296))%4294967296)) (2^32))) (.int .u64 ((((x%4294967296)*0)+((((x/4294967296)*1)+(((x%4294967296)*1)/4294967296))%4294967296))/4294967296)) (congrArg (Value.int .u64) (dl _ _ dE))<|J.h 1 [] [] [] 43 (.int .u64 (IntKind.wrap .u64 ((((x/4294967296)*0)+((((x/4294967296)*1)+(((x%4294967296)*1)/4294967296))/4294967296))+((((x%4294967296)*0)+((((x/4294967296)*1)+(((x%4294967296)*1)/4294967296))%4294967296))/4294967296)))) (.int .u64 ((((x/4294967296)*0)+((((x/4294967296)*1)+(((x%4294967296)*1)/4294967296))/4294967296))+((((x%4294967296)*0)+((((x/4294967296)*1)+(((x%4294967296)*1)/4294967296))%4294967296))/4294967296))) (congrArg (Value.int .u64) (IntWalk.u64_in _ om))<|J.h 2 [] [] [] 45 (.int .u64 (IntKind.wrap .u64 ((((x%4294967296)*0)+((((x/4294967296)*1)+(((x%4294967296)*1)/4294967296))%4294967296))*2^32))) (.int .u64 ((((x%4294967296)*0)+((((x/4294967296)*1)+(((x%4294967296)*1)/4294967296))%4294967296))*2^32%18446744073709551616)) (congrArg (Value.int .u64) (eq _))<|J.h 2 [] [] [] 47 (.int .u64 (IntKind.wrap .u64 ((BitVec.ofInt 64 ((x%4294967296)*1) &&& (BitVec.ofInt 64 (4294967295:Int))).toNat:Int))) (.int .u64 (((x%4294967296)*1)%4294967296)) (congrArg (Value.int .u64) (dT 32 _ _ rF dE))<|J.h 1 [] [] [] 48 (.int .u64 (IntKind.wrap .u64 (((((x%4294967296)*0)+((((x/4294967296)*1)+(((x%4294967296)*1)/4294967296))%4294967296))*2^32%18446744073709551616)+(((x%4294967296)*1)%4294967296)))) (.int .u64 (((((x%4294967296)*0)+((((x/4294967296)*1)+(((x%4294967296)*1)/4294967296))%4294967296))*2^32%18446744073709551616)+(((x%4294967296)*1)%4294967296))) (congrArg (Value.int .u64) (IntWalk.u64_in _ om))<|J.sb 1 [] [] [] S1 0 rfl [.int .u64 ((((x/4294967296)*0)+((((x/4294967296)*1)+(((x%4294967296)*1)/4294967296))/4294967296))+((((x%4294967296)*0)+((((x/4294967296)*1)+(((x%4294967296)*1)/4294967296))%4294967296))/4294967296)),.int .u64 (((((x%4294967296)*0)+((((x/4294967296)*1)+(((x%4294967296)*1)/4294967296))%4294967296))*2^32%18446744073709551616)+(((x%4294967296)*1)%4294967296))] rfl fun w2 S2=>J.r 1 [] [] []<|J.ret Tryz.f177 [.agg #[.int .u64 ((((x/4294967296)*0)+((((x/4294967296)*1)+(((x%4294967296)*1)/4294967296))/4294967296))+((((x%4294967296)*0)+((((x/4294967296)*1)+(((x%4294967296)*1)/4294967296))%4294967296))/4294967296)),.int .u64 (((((x%4294967296)*0)+((((x/4294967296)*1)+(((x%4294967296)*1)/4294967296))%4294967296))*2^32%18446744073709551616)+(((x%4294967296)*1)%4294967296))]] func177 ⟨⟨⟨b1,0,none⟩,kr,aS (S2.nth 0 rfl) kr⟩,trivial⟩ ?_
 refine hR _ _ ?_
 have e1:(((x/4294967296)*0)+((((x/4294967296)*1)+(((x%4294967296)*1)/4294967296))/4294967296))+((((x%4294967296)*0)+((((x/4294967296)*1)+(((x%4294967296)*1)/4294967296))%4294967296))/4294967296)=0:=by omega
 have e2:((((x%4294967296)*0)+((((x/4294967296)*1)+(((x%4294967296)*1)/4294967296))%4294967296))*2^32%18446744073709551616)+(((x%4294967296)*1)%4294967296)=x:=by omega
 exact⟨by rw[cw,e1,e2],S2.nil⟩

theorem hb176:af prog 176:=fun _ _=>by kernel_rfl
def K176_0:=adv 34 [false] (bi Tryz.f176)
theorem over_low (L c:Int) (w:World) (hL:0≤L∧L≤18446744073709551615) (hc:1≤c∧c≤9223372036854775807):Ret prog 176 #[.agg #[.int .u64 0,.int .u64 L],.int .u64 c] w (fun v w'=>v=.tuple #[.int .u64 (L/c),.int .u64 (L%c),.bool true]∧Sep w [] w'):=by
 refine Ret.st (N:=48) func176 fun R hR S0=>J.nw 2 [] [] [] S0 2 [.int .u64 0,.int .u64 L] 195 fun b1 w1 S1=>J.lb 8 [] [] [] S1 0 rfl 12 (.int .u64 0) ?_
 have fk2:¬ (0≥c):=by omega
 refine J.h 3 [] [] [] 14 (.bool (decide (0≥c))) (.bool false) (congrArg Value.bool (decide_eq_false fk2))<|J.lb 5 [false] [] [] S1 0 rfl 16 (.int .u64 0) ?_
 have L176_1:∀ (mm_:Nat) (rest:Int) (q:Int) (i:Int) (w2:World),(-1≤i∧i≤63)→(0≤rest∧rest<c)→(0≤q∧q≤18446744073709551615)→(L/2^(i+1).toNat=q*c+rest)→Sep w [box b1 [.int .u64 0,.int .u64 L] 195] w2→(i+1).toNat=mm_→J prog 176 48 R K176_0 [(9,.int .i64 i),(8,.int .u64 q),(7,.int .u64 rest),(2,.pointer (some ⟨b1,0,none⟩)),(1,.int .u64 c)] w2:=by
  intro mm1
  induction mm1 using Nat.strongRecOn with
  | _ mm1 ih1 =>
  intro rest q i w2 h0 hr hq hX S2 hm1
  have hqb:0≤i→q≤9223372036854775807:=fun h=>q_fit hL h hc.1 hX hr.1 hq.1
  refine J.c 6 [] [] [] 18 (i≥0) (fun fk3=>?_) fun fk3=>?_
  refine J.h 8 [true] [] [] 22 (.int .u64 (Int.fdiv rest (2^63))) (.int .u64 (rest/9223372036854775808)) (congrArg (Value.int .u64) (dl _ _ dE))<|J.h 6 [] [(10,.int .u64 (rest/9223372036854775808))] [] 24 (.int .u64 (IntKind.wrap .u64 (rest*2^1))) (.int .u64 (rest*2^1%18446744073709551616)) (congrArg (Value.int .u64) (eq _))<|J.lb 1 [] [] [] S2 0 rfl 26 (.int .u64 L)<|J.h 2 [] [] [] 28 (.int .u64 (IntKind.wrap .u64 i)) (.int .u64 i) (congrArg (Value.int .u64) (IntWalk.u64_in _ om))<|J.ok (OK.shr 29 .u64 L i (L/2^i.toNat) kr om ((shr_s rfl om)))<|J.h 1 [] [] [] 30 (.int .u64 (IntKind.wrap .u64 ((BitVec.ofInt 64 (L/2^i.toNat) &&& (BitVec.ofInt 64 (1:Int))).toNat:Int))) (.int .u64 ((L/2^i.toNat)%2)) (congrArg (Value.int .u64) (dT 1 _ _ rF dE))<|J.h 1 [] [] [] 31 (.int .u64 (IntKind.wrap .u64 ((rest*2^1%18446744073709551616)+((L/2^i.toNat)%2)))) (.int .u64 ((rest*2^1%18446744073709551616)+((L/2^i.toNat)%2))) (congrArg (Value.int .u64) (IntWalk.u64_in _ om))<|J.h 6 [] [(7,.int .u64 ((rest*2^1%18446744073709551616)+((L/2^i.toNat)%2)))] [] 33 (.int .u64 (IntKind.wrap .u64 (q*2^1))) (.int .u64 (q*2^1%18446744073709551616)) (congrArg (Value.int .u64) (eq _)) ?_
  have fk5:¬ ((rest/9223372036854775808)=1):=by omega
  refine J.h 7 [] [(8,.int .u64 (q*2^1%18446744073709551616))] [] 36 (.bool ((rest/9223372036854775808)==1)) (.bool false) (congrArg Value.bool (beq_eq_false_iff_ne.2 fk5))<|J.c 5 [] [] [] 40 (((rest*2^1%18446744073709551616)+((L/2^i.toNat)%2))≥c) (fun fk6=>?_) fun fk6=>?_
  exact J.h 6 [true] [] [] 43 (.int .u64 (IntKind.wrap .u64 (((rest*2^1%18446744073709551616)+((L/2^i.toNat)%2))-c))) (.int .u64 (((rest*2^1%18446744073709551616)+((L/2^i.toNat)%2))-c)) (congrArg (Value.int .u64) (IntWalk.u64_in _ om))<|J.h 5 [] [(7,.int .u64 (((rest*2^1%18446744073709551616)+((L/2^i.toNat)%2))-c))] [] 45 (.int .u64 (IntKind.wrap .u64 ((q*2^1%18446744073709551616)+1))) (.int .u64 ((q*2^1%18446744073709551616)+1)) (congrArg (Value.int .u64) (IntWalk.u64_in _ om))<|J.wi 6 [] [(8,.int .u64 ((q*2^1%18446744073709551616)+1))] [] 20 (i-1)<|J.t 3 (ih1 _ (show((i-1)+1).toNat<mm1 from by omega) (((rest*2^1%18446744073709551616)+((L/2^i.toNat)%2))-c) ((q*2^1%18446744073709551616)+1) (i-1) w2 om om om (by rw[show i-1+1=i by omega,half_step L om,hX,show(q*2^1%18446744073709551616)+1=2*q+1 by omega,dbq];omega) S2 rfl)
  exact J.wi 6 [false] [] [] 20 (i-1)<|J.t 3 (ih1 _ (show((i-1)+1).toNat<mm1 from by omega) ((rest*2^1%18446744073709551616)+((L/2^i.toNat)%2)) (q*2^1%18446744073709551616) (i-1) w2 om om om (by rw[show i-1+1=i by omega,half_step L om,hX,show q*2^1%18446744073709551616=2*q+0 by omega,dbq];omega) S2 rfl)
  refine J.e 10 [.int .u64 q,.int .u64 rest,.bool true] func176 (hR _ _ ?_)
  rw[show(i+1).toNat=0 by omega,Int.pow_zero,Int.ediv_one] at hX
  obtain ⟨e1,e2⟩:=dv_of hX hr.1 hr.2
  exact⟨by rw[tup_three,e1,e2],S2.nil⟩
 exact J.t 13 (L176_1 _ 0 0 63 w1 om om om (by rw[top_zero hL,Int.zero_mul];rfl) S1 rfl)

theorem hb168:af prog 168:=fun _ _=>by kernel_rfl

theorem rmuldiv_down (a c:Int) (w:World) (ha: -9223372036854775808≤a∧a≤9223372036854775807) (hc:1≤c∧c≤9223372036854775807):Ret prog 168 #[.int .i64 a,.int .i64 1,.int .i64 c,.int .i64 1] w (fun v w'=>v=.tuple #[.int .i64 (mdX a 1 c 1),.int .i64 0]∧Sep w [] w'):=by
 refine Ret.st (N:=108) func168 fun R hR S0=>?_
 have hm:=mag_le a om
 have hmv:(a<0∧aR a= -a)∨(0≤a∧aR a=a):=by unfold aR;omega
 have hmc:=mag_pos (c:=c) om
 have hdb:=dv_bd (x:=aR a) (c:=aR c) om om
 have hfl:mdX a 1 c 1=if a<0 then -(aR a/aR c+(if 0<aR a%aR c then 1 else 0)) else aR a/aR c:=by rw[hmc];exact floor_abs om
 have fk2:¬ (c=0):=by omega
 refine J.h 27 [false] [] [] 27 (.bool (c==0)) (.bool false) (congrArg Value.bool (beq_eq_false_iff_ne.2 fk2))<|J.cn 7 [false] [] [] 30 (a=0) (fun fk3=>?_) fun fk3=>?_
 have:=mag_le c om
 refine J.c0 18 [] [(10,.bool false)] [] S0 45 hb175 (size_any c _ om) fun w1 S1=>?_
 have:=mag_le a om
 refine J.c0 5 [] [(11,.int .u64 (aR c))] [] S1 48 hb175 (size_any a _ om) fun w2 S2=>J.c0 1 [] [] [] S2 50 hb175 (size_one  _) fun w3 S3=>J.c0 0 [] [] [] S3 51 hb177 (times_one (aR a) _ om) fun w4 S4=>J.c0 1 [] [] [] S4 53 hb176 (over_low (aR a) (aR c) _ om om) fun w5 S5=>J.c 61 [false,true,false,false] [(12,.int .u64 ((aR a)/(aR c)))] [] 105 (((aR a)/(aR c))≥9223372036854775808) (fun fk4=>?_) fun fk4=>?_
 refine J.e 6 [.int .i64 0,.int .i64 9] func168 (hR _ _ ?_)
 exfalso;omega
 refine J.wi 6 [false] [] [] 107 ((aR a)/(aR c))<|J.e 3 [.int .i64 ((aR a)/(aR c)),.int .i64 0] func168 (hR _ _ ?_)
 have e1:mdX a 1 c 1=(aR a)/(aR c):=by rw[hfl];(repeat' split)<;>omega
 exact⟨by rw[e1];rfl,S5.nil⟩
 skip
 refine J.r 12 [] [(42,.bool (!((!((decide (a<0))==false))==(decide (c<0))))),(34,.bool true)] [] ?_
 obtain ⟨m,hm⟩:∃ x:Bool,x=(!((!((decide (a<0))==false))==(decide (c<0)))):=⟨_,rfl⟩
 refine J.head (.bool m) (congrArg Value.bool hm.symm) ?_
 have hm2:m=true↔a<0:=by rw[hm];simp;omega
 have:=mag_le c om
 refine J.c0 6 [] [(10,.bool m)] [] S0 45 hb175 (size_any c _ om) fun w6 S6=>?_
 have:=mag_le a om
 refine J.c0 5 [] [(11,.int .u64 (aR c))] [] S6 48 hb175 (size_any a _ om) fun w7 S7=>J.c0 1 [] [] [] S7 50 hb175 (size_one  _) fun w8 S8=>J.c0 0 [] [] [] S8 51 hb177 (times_one (aR a) _ om) fun w9 S9=>J.c0 1 [] [] [] S9 53 hb176 (over_low (aR a) (aR c) _ om om) fun w10 S10=>J.b 35 [false,true] [(13,.int .u64 ((aR a)%(aR c))),(12,.int .u64 ((aR a)/(aR c)))] [] 63 m (fun fk5=>?_) fun fk5=>?_
 have fb2:=hm2.1 fk5
 refine J.c 11 [] [] [] 93 (((aR a)%(aR c))>0) (fun fk6=>?_) fun fk6=>?_
 refine J.c 7 [true] [] [] 95 (((aR a)/(aR c))=18446744073709551615) (fun fk7=>?_) fun fk7=>?_
 refine J.e 6 [.int .i64 0,.int .i64 9] func168 (hR _ _ ?_)
 exfalso;omega
 refine J.h 5 [false] [] [] 97 (.int .u64 (IntKind.wrap .u64 (((aR a)/(aR c))+1))) (.int .u64 (((aR a)/(aR c))+1)) (congrArg (Value.int .u64) (IntWalk.u64_in _ om))<|J.h 7 [] [(12,.int .u64 (((aR a)/(aR c))+1))] [] 98 (.bool m) (.bool true) (congrArg Value.bool fk5)<|J.c 7 [true] [] [] 100 ((((aR a)/(aR c))+1)>9223372036854775808) (fun fk9=>?_) fun fk9=>?_
 refine J.e 6 [.int .i64 0,.int .i64 9] func168 (hR _ _ ?_)
 exfalso;omega
 refine J.h 7 [false] [] [] 103 (.int .i64 (IntKind.wrap .i64 (IntKind.wrap .u64 (0-(((aR a)/(aR c))+1))))) (.int .i64 (-(((aR a)/(aR c))+1))) (congrArg (Value.int .i64) (neg_conv om))<|J.e 3 [.int .i64 (-(((aR a)/(aR c))+1)),.int .i64 0] func168 (hR _ _ ?_)
 have e1:mdX a 1 c 1= -(((aR a)/(aR c))+1):=by rw[hfl];(repeat' split)<;>omega
 exact⟨by rw[e1];rfl,S10.nil⟩
 refine J.h 7 [false] [] [] 98 (.bool m) (.bool true) (congrArg Value.bool fk5)<|J.c 7 [true] [] [] 100 (((aR a)/(aR c))>9223372036854775808) (fun fk11=>?_) fun fk11=>?_
 refine J.e 6 [.int .i64 0,.int .i64 9] func168 (hR _ _ ?_)
 exfalso;omega
 refine J.h 7 [false] [] [] 103 (.int .i64 (IntKind.wrap .i64 (IntKind.wrap .u64 (0-((aR a)/(aR c)))))) (.int .i64 (-((aR a)/(aR c)))) (congrArg (Value.int .i64) (neg_conv om))<|J.e 3 [.int .i64 (-((aR a)/(aR c))),.int .i64 0] func168 (hR _ _ ?_)
 have e1:mdX a 1 c 1= -((aR a)/(aR c)):=by rw[hfl];(repeat' split)<;>omega
 exact⟨by rw[e1];rfl,S10.nil⟩
 have fb3:=mt hm2.2 (by rw[fk5];decide)
 refine J.h 18 [false] [] [] 98 (.bool m) (.bool false) (congrArg Value.bool fk5)<|J.c 8 [false] [] [] 105 (((aR a)/(aR c))≥9223372036854775808) (fun fk13=>?_) fun fk13=>?_
 refine J.e 6 [.int .i64 0,.int .i64 9] func168 (hR _ _ ?_)
 exfalso;omega
 refine J.wi 6 [false] [] [] 107 ((aR a)/(aR c))<|J.e 3 [.int .i64 ((aR a)/(aR c)),.int .i64 0] func168 (hR _ _ ?_)
 have e1:mdX a 1 c 1=(aR a)/(aR c):=by rw[hfl];(repeat' split)<;>omega
 exact⟨by rw[e1];rfl,S10.nil⟩

theorem hb158:af prog 158:=fun _ _=>by kernel_rfl

theorem clamp_any (x lo hi:Int) (w:World):Ret prog 158 #[.int .i64 x,.int .i64 lo,.int .i64 hi] w (fun v w'=>v=.int .i64 (min (max x lo) hi)∧Sep w [] w'):=by
 refine Ret.st (N:=12) func158 fun R hR S0=>J.h 9 [] [] [] 9 (.int .i64 (if lo>x then lo else x)) (.int .i64 (max x lo)) (congrArg (Value.int .i64) om)<|J.h 2 [] [] [] 11 (.int .i64 (if hi<(max x lo) then hi else (max x lo))) (.int .i64 (min (max x lo) hi)) (congrArg (Value.int .i64) om)<|J.e 2 [.int .i64 (min (max x lo) hi)] func158 (hR _ _ ?_)
 exact⟨rfl,S0.nil⟩

theorem hb157:af prog 157:=fun _ _=>by kernel_rfl

theorem div_down (a c:Int) (w:World) (ha: -9223372036854775808≤a∧a≤9223372036854775807) (hc:1≤c∧c≤9223372036854775807):Ret prog 157 #[.int .i64 a,.int .i64 c,.int .i64 1] w (fun v w'=>v=.tuple #[.int .i64 (mdX a 1 c 1),.int .i64 0]∧Sep w [] w'):=by
 refine Ret.st (N:=14) func157 fun R hR S0=>J.c0 10 [] [] [] S0 11 hb171 (muldiv_down a c _ om om) fun w1 S1=>J.e 5 [.int .i64 (mdX a 1 c 1),.int .i64 0] func157 (hR _ _ ?_)
 exact⟨rfl,S1.nil⟩

theorem hb131:af prog 131:=fun _ _=>by kernel_rfl

theorem floor_any (a c:Int) (w:World) (ha: -9223372036854775808≤a∧a≤9223372036854775807) (hc:1≤c∧c≤9223372036854775807):Ret prog 131 #[.int .i64 a,.int .i64 c] w (fun v w'=>v=.int .i64 (mdX a 1 c 1)∧Sep w [] w'):=by
 refine Ret.st (N:=14) func131 fun R hR S0=>J.c0 8 [] [] [] S0 10 hb157 (div_down a c _ om om) fun w1 S1=>J.e 11 [.int .i64 (mdX a 1 c 1)] func131 (hR _ _ ?_)
 exact⟨rfl,S1.nil⟩

theorem hb79:af prog 79:=fun _ _=>by kernel_rfl

theorem rclamp_any (x lo hi:Int) (w:World):Ret prog 79 #[.int .i64 x,.int .i64 lo,.int .i64 hi] w (fun v w'=>v=.int .i64 (min (max x lo) hi)∧Sep w [] w'):=by
 refine Ret.st (N:=12) func79 fun R hR S0=>J.h 9 [] [] [] 9 (.int .i64 (if lo>x then lo else x)) (.int .i64 (max x lo)) (congrArg (Value.int .i64) om)<|J.h 2 [] [] [] 11 (.int .i64 (if hi<(max x lo) then hi else (max x lo))) (.int .i64 (min (max x lo) hi)) (congrArg (Value.int .i64) om)<|J.e 2 [.int .i64 (min (max x lo) hi)] func79 (hR _ _ ?_)
 exact⟨rfl,S0.nil⟩

theorem hb149:af prog 149:=fun _ _=>by kernel_rfl

theorem rdiv_down (a c:Int) (w:World) (ha: -9223372036854775808≤a∧a≤9223372036854775807) (hc:1≤c∧c≤9223372036854775807):Ret prog 149 #[.int .i64 a,.int .i64 c,.int .i64 1] w (fun v w'=>v=.tuple #[.int .i64 (mdX a 1 c 1),.int .i64 0]∧Sep w [] w'):=by
 refine Ret.st (N:=14) func149 fun R hR S0=>J.c0 10 [] [] [] S0 11 hb168 (rmuldiv_down a c _ om om) fun w1 S1=>J.e 5 [.int .i64 (mdX a 1 c 1),.int .i64 0] func149 (hR _ _ ?_)
 exact⟨rfl,S1.nil⟩

theorem hb117:af prog 117:=fun _ _=>by kernel_rfl

theorem rfloor_any (a c:Int) (w:World) (ha: -9223372036854775808≤a∧a≤9223372036854775807) (hc:1≤c∧c≤9223372036854775807):Ret prog 117 #[.int .i64 a,.int .i64 c] w (fun v w'=>v=.int .i64 (mdX a 1 c 1)∧Sep w [] w'):=by
 refine Ret.st (N:=14) func117 fun R hR S0=>J.c0 8 [] [] [] S0 10 hb149 (rdiv_down a c _ om om) fun w1 S1=>J.e 11 [.int .i64 (mdX a 1 c 1)] func117 (hR _ _ ?_)
 exact⟨rfl,S1.nil⟩

end
end Go.Proofs.YtaoolgcddapegaaGreat

