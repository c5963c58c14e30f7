/- Walks of functions of this seat, printed by a program over the engine. Conditions: as each theorem says. -/
import Derived.Test.YtdneanhkcnfgdaaGreatDoorZtR7
import Derived.Shelf.Strings.Builder1
import Derived.Shelf.Strings.Builder2
import Derived.Shelf.Strings.OnBuilder
import Derived.Shelf.Strings.BuilderF
import Derived.Shelf.Strings.BuilderK
import Derived.Shelf.Strings.Builder2Cap
import Derived.Shelf.Strconv.Atoi
import Derived.Shelf.Strconv.Itoa0
import Derived.Shelf.Strconv.Itoa1
import Derived.Shelf.LaysM
import Derived.Shelf.Strconv.Itoa2
import Derived.Shelf.Strconv.Itoa3
import Derived.Shelf.Strconv.AtoiErrFast
import Derived.Shelf.Strconv.ParseIntEmpty
import Derived.Shelf.Strconv.AtoiFail
import Derived.Shelf.Strconv.Clone
import Derived.Shelf.Strconv.SyntaxError
import Derived.Shelf.LaysC
import Derived.Shelf.Strconv.ToError
import Derived.Shelf.Strconv.Lower
import Derived.Shelf.Strconv.ParseUint10
import Derived.Shelf.Strconv.ParseUint10Empty
import Derived.Shelf.Strconv.ParseUint10Any
import Derived.Shelf.Strconv.ParseInt10
import Derived.Shelf.Strconv.AtoiLong
import Derived.Shelf.Strconv.AtoiInnerAll
import Derived.Shelf.Strconv.RangeError
import Derived.Shelf.Strconv.ToErrorRange
import Derived.Shelf.Strconv.AtoiAll
import Derived.Shelf.Strings.Search1
import Derived.Shelf.Strings.Search2
import Derived.Shelf.Strings.Search3
import Derived.Shelf.Strings.Count
import Derived.Shelf.Strings.Shaped
import Derived.Shelf.Strings.Split
import Derived.Shelf.Strings.SplitShaped
import Derived.Shelf.Unicode.DecodeSlow
import Derived.Shelf.Strings.BuilderCap
import Derived.Test.YtdneanhkcnfgdaaGreatDoorProg
import Derived.Test.YtdneanhkcnfgdaaGreatDoorZtEng10
set_option linter.unusedSimpArgs false
set_option linter.unusedVariables false
namespace Go.Proofs.YtdneanhkcnfgdaaGreatDoor
noncomputable section
open Go.Eng Go.RowKit Go.Proofs.Tryz
set_option maxRecDepth 20000
set_option maxHeartbeats 20000000
theorem hb24:aJ prog 24:=fun _ _=>by kernel_rfl
def K24_0:=adv 10 [] (aY Tryz.f24)
theorem list_ok (b:Nat) (a:Option Addr) (c:Nat) (L:List Tk) (k0:Int) (most:Int) (w0:World) (L0:List Eng.Claim) (w:World) (S0:Sep w0 (box b [.slice a L.length c,.int .i64 k0,.int .i64 0,.int .i64 0,.int .i64 0] 66::aa tkE a c 91 4 L::L0) w) (hk:0≤k0∧k0≤(L.length:Int)) (hL:1≤L.length∧L.length≤1000000) (htk:∀ j,j<L.length→1≤(L.getD j tk0).ag.size∧(L.getD j tk0).ag.size≤1000000):Ret prog 24 #[.pointer (some ⟨b,0,none⟩),.int .i64 most] w (fun v w'=>∃ e' a' l' c' ra rc out,v=.slice ra out.length rc∧Rz (lsZ L most (.ok k0)) e' a' l' c'∧(0≤a'∧a'≤(L.length:Int))∧(out.length≤1000000∧(isZ (lsZ L most (.ok k0))=true→out=lsV L most (.ok k0)))∧Sep w0 (aa (ah Value.string) ra rc 9 1 out::box b [.slice a L.length c,.int .i64 a',.int .i64 l',.int .i64 c',.int .i64 e'] 66::aa tkE a c 91 4 L::L0) w'):=by
 refine Ret.st (N:=44) func24 fun R hR _=>?_
 have S1:Sep w0 (aa (ah Value.string) none 0 9 1 ([])::box b [.slice a L.length c,.int .i64 k0,.int .i64 0,.int .i64 0,.int .i64 0] 66::aa tkE a c 91 4 L::L0) w:=S0.nilRow 9 1
 have L24_1:∀ (mm_:Nat) (ra:Option Addr) (rc:Nat) (out:List ByteArray) (k:Int) (w1:World),(0≤k∧k≤(L.length:Int))→(((out).length:Int)≤k)→(lsF L most k0 []=lsF L most k out)→Sep w0 (aa (ah Value.string) ra rc 9 1 out::box b [.slice a L.length c,.int .i64 k,.int .i64 0,.int .i64 0,.int .i64 0] 66::aa tkE a c 91 4 L::L0) w1→((L.length:Int)-k).toNat=mm_→J prog 24 44 R K24_0 [(5,.slice ra out.length rc),(0,.pointer (some ⟨b,0,none⟩)),(1,.int .i64 most)] w1:=by
  intro mm1
  induction mm1 using Nat.strongRecOn with
  | _ mm1 ih1 =>
  intro ra rc out k w1 hk2 hol hQ S2 hm1
  refine J.r 4 [] [(9,.pointer (some ⟨b,0,none⟩))] [] ?_
  by_cases fk1:k<(L.length:Int)
  rcases Bool.eq_false_or_eq_true (aV (L.getD (k).toNat tk0).ag) with fk2 | fk2
  have S3:=S2.front 2 rfl
  have S4:Sep w0 (box b [.slice a L.length c,.int .i64 k,.int .i64 0,.int .i64 0,.int .i64 0] 66::aa tkE a c 91 4 L::aa (ah Value.string) ra rc 9 1 out::L0) w1:=S3.front 2 rfl
  refine J.callF 10 55 #[.pointer (some ⟨b,0,none⟩)] hb55 kr (rname_in b a c L k _ _ _ S4 om hL htk fk1 fk2) ?_
  rintro _ w2 ⟨rfl,S5⟩
  replace S5:Sep w0 (box b [.slice a L.length c,.int .i64 (k+1),.int .i64 0,.int .i64 0,.int .i64 0] 66::aa tkE a c 91 4 L::aa (ah Value.string) ra rc 9 1 out::L0) w2:=S5
  refine J.nw 3 [] [(12,.bool true),(11,.agg #[.int .i64 ((L.getD (k).toNat tk0).az),.string ((L.getD (k).toNat tk0).ag),.int .i64 ((L.getD (k).toNat tk0).ae),.int .i64 ((L.getD (k).toNat tk0).ac)])] [] S5 6 [.int .i64 0,.string ByteArray.empty,.int .i64 0,.int .i64 0] 91 fun b1 w3 S6=>J.sb 0 [] [] [] S6 0 rfl [.int .i64 ((L.getD (k).toNat tk0).az),.string ((L.getD (k).toNat tk0).ag),.int .i64 ((L.getD (k).toNat tk0).ae),.int .i64 ((L.getD (k).toNat tk0).ac)] rfl fun w4 S7=>J.c 19 [false] [] [] 17 ((out.length:Int)=most) (fun fk3=>?_) fun fk3=>?_
  refine J.lb 3 [true] [(22,.pointer (some ⟨b,0,none⟩))] [] S7 0 rfl 23 (.agg #[.int .i64 ((L.getD (k).toNat tk0).az),.string ((L.getD (k).toNat tk0).ag),.int .i64 ((L.getD (k).toNat tk0).ae),.int .i64 ((L.getD (k).toNat tk0).ac)]) ?_
  have S8:Sep w0 (box b [.slice a L.length c,.int .i64 (k+1),.int .i64 0,.int .i64 0,.int .i64 0] 66::box b1 [.int .i64 ((L.getD (k).toNat tk0).az),.string ((L.getD (k).toNat tk0).ag),.int .i64 ((L.getD (k).toNat tk0).ae),.int .i64 ((L.getD (k).toNat tk0).ac)] 91::aa tkE a c 91 4 L::aa (ah Value.string) ra rc 9 1 out::L0) w4:=S7.front 1 rfl
  refine J.callF 24 54 #[.pointer (some ⟨b,0,none⟩),.agg #[.int .i64 ((L.getD (k).toNat tk0).az),.string ((L.getD (k).toNat tk0).ag),.int .i64 ((L.getD (k).toNat tk0).ae),.int .i64 ((L.getD (k).toNat tk0).ac)],.int .i64 5] hb54 kr (bI b a L.length c (k+1) (L.getD (k).toNat tk0) 5 _ _ _ S8) ?_
  rintro _ w5 ⟨rfl,S9⟩
  replace S9:Sep w0 (box b [.slice a L.length c,.int .i64 (k+1),.int .i64 ((L.getD (k).toNat tk0).ae),.int .i64 ((L.getD (k).toNat tk0).ac),.int .i64 5] 66::box b1 [.int .i64 ((L.getD (k).toNat tk0).az),.string ((L.getD (k).toNat tk0).ag),.int .i64 ((L.getD (k).toNat tk0).ae),.int .i64 ((L.getD (k).toNat tk0).ac)] 91::aa tkE a c 91 4 L::aa (ah Value.string) ra rc 9 1 out::L0) w5:=S9
  refine J.lb 6 [] [(33,.slice ra out.length rc)] [] S9 1 rfl 35 (.string ((L.getD (k).toNat tk0).ag))<|J.newSlice S9 36 1 [.string ((L.getD (k).toNat tk0).ag)] 9 kr ?_
  intro b2 w6 S10
  refine J.append (ah Value.string) S10 4 out ((L.getD (k).toNat tk0).ag) 37 22 (.string ByteArray.empty) 16 ⟨b2,0,none⟩ 1 rfl kr kr kr kr dE (aU (S10.nth 0 rfl)) kr kr (⟨om,om⟩) ?_
  intro ra1 rc1 w7 S11
  replace S11:Sep w0 (box b2 [.string ((L.getD (k).toNat tk0).ag)] 9::box b [.slice a L.length c,.int .i64 (k+1),.int .i64 ((L.getD (k).toNat tk0).ae),.int .i64 ((L.getD (k).toNat tk0).ac),.int .i64 5] 66::box b1 [.int .i64 ((L.getD (k).toNat tk0).az),.string ((L.getD (k).toNat tk0).ag),.int .i64 ((L.getD (k).toNat tk0).ae),.int .i64 ((L.getD (k).toNat tk0).ac)] 91::aa tkE a c 91 4 L::aa (ah Value.string) ra1 rc1 9 1 (out++[((L.getD (k).toNat tk0).ag)])::L0) w7:=S11
  refine J.r 5 [] [(38,.pointer (some ⟨b,0,none⟩)),(5,.slice ra1 ((out++[((L.getD (k).toNat tk0).ag)]).length) rc1)] [] ?_
  have S12:=(S11.erase 0).front 2 rfl
  have S13:Sep w0 (box b [.slice a L.length c,.int .i64 (k+1),.int .i64 ((L.getD (k).toNat tk0).ae),.int .i64 ((L.getD (k).toNat tk0).ac),.int .i64 5] 66::aa tkE a c 91 4 L::box b1 [.int .i64 ((L.getD (k).toNat tk0).az),.string ((L.getD (k).toNat tk0).ag),.int .i64 ((L.getD (k).toNat tk0).ae),.int .i64 ((L.getD (k).toNat tk0).ac)] 91::aa (ah Value.string) ra1 rc1 9 1 (out++[((L.getD (k).toNat tk0).ag)])::L0) w7:=S12.front 1 rfl
  refine J.callF 39 25 #[.pointer (some ⟨b,0,none⟩),.string ⟨#[44]⟩] hb25 kr (more_no b a c L (k+1) ((L.getD (k).toNat tk0).ae) ((L.getD (k).toNat tk0).ac) 5 (⟨#[44]⟩:ByteArray) _ _ _ S13 dE) ?_
  rintro _ w8 ⟨rfl,S14⟩
  replace S14:Sep w0 (box b [.slice a L.length c,.int .i64 (k+1),.int .i64 ((L.getD (k).toNat tk0).ae),.int .i64 ((L.getD (k).toNat tk0).ac),.int .i64 5] 66::aa tkE a c 91 4 L::box b1 [.int .i64 ((L.getD (k).toNat tk0).az),.string ((L.getD (k).toNat tk0).ag),.int .i64 ((L.getD (k).toNat tk0).ae),.int .i64 ((L.getD (k).toNat tk0).ac)] 91::aa (ah Value.string) ra1 rc1 9 1 (out++[((L.getD (k).toNat tk0).ag)])::L0) w8:=S14
  refine J.r 6 [true] [(41,.pointer (some ⟨b,0,none⟩))] []<|J.callF 42 27 #[.pointer (some ⟨b,0,none⟩)] hb27 kr (end_any b a c L (.no 5 ((L.getD (k).toNat tk0).ae) ((L.getD (k).toNat tk0).ac)) 5 (k+1) ((L.getD (k).toNat tk0).ae) ((L.getD (k).toNat tk0).ac) _ _ _ S14 (rz_no dE) om hL) ?_
  rintro _ w9 ⟨ze1,za1,zl1,zc1,rfl,hz1,hzb1,S15⟩
  replace S15:Sep w0 (box b [.slice a L.length c,.int .i64 za1,.int .i64 zl1,.int .i64 zc1,.int .i64 ze1] 66::aa tkE a c 91 4 L::box b1 [.int .i64 ((L.getD (k).toNat tk0).az),.string ((L.getD (k).toNat tk0).ag),.int .i64 ((L.getD (k).toNat tk0).ae),.int .i64 ((L.getD (k).toNat tk0).ac)] 91::aa (ah Value.string) ra1 rc1 9 1 (out++[((L.getD (k).toNat tk0).ag)])::L0) w9:=S15
  refine J.e 6 [.slice ra1 ((out++[((L.getD (k).toNat tk0).ag)]).length) rc1] func24 (hR _ _ ?_)
  have S16:Sep w0 (box b [.slice a L.length c,.int .i64 za1,.int .i64 zl1,.int .i64 zc1,.int .i64 ze1] 66::aa tkE a c 91 4 L::aa (ah Value.string) ra1 rc1 9 1 (out++[((L.getD (k).toNat tk0).ag)])::L0) w9:=(S15.erase 2)
  have S17:=S16.front 1 rfl
  have S18:=S17.front 1 rfl
  have S19:Sep w0 (aa (ah Value.string) ra1 rc1 9 1 (out++[((L.getD (k).toNat tk0).ag)])::box b [.slice a L.length c,.int .i64 za1,.int .i64 zl1,.int .i64 zc1,.int .i64 ze1] 66::aa tkE a c 91 4 L::L0) w9:=S18.front 2 rfl
  have hq_:=hQ.trans (ls_full fk1 fk2 fk3)
  exact⟨_,_,_,_,_,_,_,rfl,aP (congrArg Prod.fst hq_:lsZ L most (.ok k0)=_) (hz1),hzb1,⟨by (try rw[List.length_append,List.length_singleton]);omega,(fun hi_=>by rw[show lsZ L most (.ok k0)=(lsF L most k0 []).1 from rfl,hq_] at hi_;cases hi_)⟩,S19⟩
  refine J.lb 5 [false] [(26,.slice ra out.length rc)] [] S7 0 rfl 28 (.string ((L.getD (k).toNat tk0).ag)) ?_
  have:=aQ (S7.nth 3 rfl)
  refine J.c0 0 [] [] [] S7 29 hb56 (containsS ra out.length rc out ((L.getD (k).toNat tk0).ag) _ ((aR (S7.nth 3 rfl) out.length rO)) oz) fun w10 S20=>J.b 2 [] [] [] 25 (List.any out (eqT ((L.getD (k).toNat tk0).ag))) (fun fk4=>?_) fun fk4=>?_
  refine J.lb 3 [true] [(30,.pointer (some ⟨b,0,none⟩))] [] S20 0 rfl 31 (.agg #[.int .i64 ((L.getD (k).toNat tk0).az),.string ((L.getD (k).toNat tk0).ag),.int .i64 ((L.getD (k).toNat tk0).ae),.int .i64 ((L.getD (k).toNat tk0).ac)]) ?_
  have S21:Sep w0 (box b [.slice a L.length c,.int .i64 (k+1),.int .i64 0,.int .i64 0,.int .i64 0] 66::box b1 [.int .i64 ((L.getD (k).toNat tk0).az),.string ((L.getD (k).toNat tk0).ag),.int .i64 ((L.getD (k).toNat tk0).ae),.int .i64 ((L.getD (k).toNat tk0).ac)] 91::aa tkE a c 91 4 L::aa (ah Value.string) ra rc 9 1 out::L0) w10:=S20.front 1 rfl
  refine J.callF 32 54 #[.pointer (some ⟨b,0,none⟩),.agg #[.int .i64 ((L.getD (k).toNat tk0).az),.string ((L.getD (k).toNat tk0).ag),.int .i64 ((L.getD (k).toNat tk0).ae),.int .i64 ((L.getD (k).toNat tk0).ac)],.int .i64 8] hb54 kr (bI b a L.length c (k+1) (L.getD (k).toNat tk0) 8 _ _ _ S21) ?_
  rintro _ w11 ⟨rfl,S22⟩
  replace S22:Sep w0 (box b [.slice a L.length c,.int .i64 (k+1),.int .i64 ((L.getD (k).toNat tk0).ae),.int .i64 ((L.getD (k).toNat tk0).ac),.int .i64 8] 66::box b1 [.int .i64 ((L.getD (k).toNat tk0).az),.string ((L.getD (k).toNat tk0).ag),.int .i64 ((L.getD (k).toNat tk0).ae),.int .i64 ((L.getD (k).toNat tk0).ac)] 91::aa tkE a c 91 4 L::aa (ah Value.string) ra rc 9 1 out::L0) w11:=S22
  refine J.lb 6 [] [(33,.slice ra out.length rc)] [] S22 1 rfl 35 (.string ((L.getD (k).toNat tk0).ag))<|J.newSlice S22 36 1 [.string ((L.getD (k).toNat tk0).ag)] 9 kr ?_
  intro b3 w12 S23
  refine J.append (ah Value.string) S23 4 out ((L.getD (k).toNat tk0).ag) 37 22 (.string ByteArray.empty) 16 ⟨b3,0,none⟩ 1 rfl kr kr kr kr dE (aU (S23.nth 0 rfl)) kr kr (⟨om,om⟩) ?_
  intro ra2 rc2 w13 S24
  replace S24:Sep w0 (box b3 [.string ((L.getD (k).toNat tk0).ag)] 9::box b [.slice a L.length c,.int .i64 (k+1),.int .i64 ((L.getD (k).toNat tk0).ae),.int .i64 ((L.getD (k).toNat tk0).ac),.int .i64 8] 66::box b1 [.int .i64 ((L.getD (k).toNat tk0).az),.string ((L.getD (k).toNat tk0).ag),.int .i64 ((L.getD (k).toNat tk0).ae),.int .i64 ((L.getD (k).toNat tk0).ac)] 91::aa tkE a c 91 4 L::aa (ah Value.string) ra2 rc2 9 1 (out++[((L.getD (k).toNat tk0).ag)])::L0) w13:=S24
  refine J.r 5 [] [(38,.pointer (some ⟨b,0,none⟩)),(5,.slice ra2 ((out++[((L.getD (k).toNat tk0).ag)]).length) rc2)] [] ?_
  have S25:=(S24.erase 0).front 2 rfl
  have S26:Sep w0 (box b [.slice a L.length c,.int .i64 (k+1),.int .i64 ((L.getD (k).toNat tk0).ae),.int .i64 ((L.getD (k).toNat tk0).ac),.int .i64 8] 66::aa tkE a c 91 4 L::box b1 [.int .i64 ((L.getD (k).toNat tk0).az),.string ((L.getD (k).toNat tk0).ag),.int .i64 ((L.getD (k).toNat tk0).ae),.int .i64 ((L.getD (k).toNat tk0).ac)] 91::aa (ah Value.string) ra2 rc2 9 1 (out++[((L.getD (k).toNat tk0).ag)])::L0) w13:=S25.front 1 rfl
  refine J.callF 39 25 #[.pointer (some ⟨b,0,none⟩),.string ⟨#[44]⟩] hb25 kr (more_no b a c L (k+1) ((L.getD (k).toNat tk0).ae) ((L.getD (k).toNat tk0).ac) 8 (⟨#[44]⟩:ByteArray) _ _ _ S26 dE) ?_
  rintro _ w14 ⟨rfl,S27⟩
  replace S27:Sep w0 (box b [.slice a L.length c,.int .i64 (k+1),.int .i64 ((L.getD (k).toNat tk0).ae),.int .i64 ((L.getD (k).toNat tk0).ac),.int .i64 8] 66::aa tkE a c 91 4 L::box b1 [.int .i64 ((L.getD (k).toNat tk0).az),.string ((L.getD (k).toNat tk0).ag),.int .i64 ((L.getD (k).toNat tk0).ae),.int .i64 ((L.getD (k).toNat tk0).ac)] 91::aa (ah Value.string) ra2 rc2 9 1 (out++[((L.getD (k).toNat tk0).ag)])::L0) w14:=S27
  refine J.r 6 [true] [(41,.pointer (some ⟨b,0,none⟩))] []<|J.callF 42 27 #[.pointer (some ⟨b,0,none⟩)] hb27 kr (end_any b a c L (.no 8 ((L.getD (k).toNat tk0).ae) ((L.getD (k).toNat tk0).ac)) 8 (k+1) ((L.getD (k).toNat tk0).ae) ((L.getD (k).toNat tk0).ac) _ _ _ S27 (rz_no dE) om hL) ?_
  rintro _ w15 ⟨ze2,za2,zl2,zc2,rfl,hz2,hzb2,S28⟩
  replace S28:Sep w0 (box b [.slice a L.length c,.int .i64 za2,.int .i64 zl2,.int .i64 zc2,.int .i64 ze2] 66::aa tkE a c 91 4 L::box b1 [.int .i64 ((L.getD (k).toNat tk0).az),.string ((L.getD (k).toNat tk0).ag),.int .i64 ((L.getD (k).toNat tk0).ae),.int .i64 ((L.getD (k).toNat tk0).ac)] 91::aa (ah Value.string) ra2 rc2 9 1 (out++[((L.getD (k).toNat tk0).ag)])::L0) w15:=S28
  refine J.e 6 [.slice ra2 ((out++[((L.getD (k).toNat tk0).ag)]).length) rc2] func24 (hR _ _ ?_)
  have S29:Sep w0 (box b [.slice a L.length c,.int .i64 za2,.int .i64 zl2,.int .i64 zc2,.int .i64 ze2] 66::aa tkE a c 91 4 L::aa (ah Value.string) ra2 rc2 9 1 (out++[((L.getD (k).toNat tk0).ag)])::L0) w15:=(S28.erase 2)
  have S30:=S29.front 1 rfl
  have S31:=S30.front 1 rfl
  have S32:Sep w0 (aa (ah Value.string) ra2 rc2 9 1 (out++[((L.getD (k).toNat tk0).ag)])::box b [.slice a L.length c,.int .i64 za2,.int .i64 zl2,.int .i64 zc2,.int .i64 ze2] 66::aa tkE a c 91 4 L::L0) w15:=S31.front 2 rfl
  have hq_:=hQ.trans (ls_twice fk1 fk2 fk3 fk4)
  exact⟨_,_,_,_,_,_,_,rfl,aP (congrArg Prod.fst hq_:lsZ L most (.ok k0)=_) (hz2),hzb2,⟨by (try rw[List.length_append,List.length_singleton]);omega,(fun hi_=>by rw[show lsZ L most (.ok k0)=(lsF L most k0 []).1 from rfl,hq_] at hi_;cases hi_)⟩,S32⟩
  refine J.lb 7 [false] [(33,.slice ra out.length rc)] [] S20 0 rfl 35 (.string ((L.getD (k).toNat tk0).ag))<|J.newSlice S20 36 1 [.string ((L.getD (k).toNat tk0).ag)] 9 kr ?_
  intro b4 w16 S33
  refine J.append (ah Value.string) S33 4 out ((L.getD (k).toNat tk0).ag) 37 22 (.string ByteArray.empty) 16 ⟨b4,0,none⟩ 1 rfl kr kr kr kr dE (aU (S33.nth 0 rfl)) kr kr (⟨om,om⟩) ?_
  intro ra3 rc3 w17 S34
  replace S34:Sep w0 (box b4 [.string ((L.getD (k).toNat tk0).ag)] 9::box b1 [.int .i64 ((L.getD (k).toNat tk0).az),.string ((L.getD (k).toNat tk0).ag),.int .i64 ((L.getD (k).toNat tk0).ae),.int .i64 ((L.getD (k).toNat tk0).ac)] 91::box b [.slice a L.length c,.int .i64 (k+1),.int .i64 0,.int .i64 0,.int .i64 0] 66::aa tkE a c 91 4 L::aa (ah Value.string) ra3 rc3 9 1 (out++[((L.getD (k).toNat tk0).ag)])::L0) w17:=S34
  refine J.r 5 [] [(38,.pointer (some ⟨b,0,none⟩)),(5,.slice ra3 ((out++[((L.getD (k).toNat tk0).ag)]).length) rc3)] [] ?_
  rcases Bool.eq_false_or_eq_true (mrB L (⟨#[44]⟩:ByteArray) (.ok (k+1))) with fk5 | fk5
  have S35:=(S34.erase 0).front 2 rfl
  have S36:Sep w0 (box b [.slice a L.length c,.int .i64 (k+1),.int .i64 0,.int .i64 0,.int .i64 0] 66::aa tkE a c 91 4 L::box b1 [.int .i64 ((L.getD (k).toNat tk0).az),.string ((L.getD (k).toNat tk0).ag),.int .i64 ((L.getD (k).toNat tk0).ae),.int .i64 ((L.getD (k).toNat tk0).ac)] 91::aa (ah Value.string) ra3 rc3 9 1 (out++[((L.getD (k).toNat tk0).ag)])::L0) w17:=S35.front 2 rfl
  refine J.callF 39 25 #[.pointer (some ⟨b,0,none⟩),.string ⟨#[44]⟩] hb25 kr (more_yes b a c L (k+1) (⟨#[44]⟩:ByteArray) _ _ _ S36 om hL fk5) ?_
  rintro _ w18 ⟨rfl,S37⟩
  replace S37:Sep w0 (box b [.slice a L.length c,.int .i64 ((k+1)+1),.int .i64 0,.int .i64 0,.int .i64 0] 66::aa tkE a c 91 4 L::box b1 [.int .i64 ((L.getD (k).toNat tk0).az),.string ((L.getD (k).toNat tk0).ag),.int .i64 ((L.getD (k).toNat tk0).ae),.int .i64 ((L.getD (k).toNat tk0).ac)] 91::aa (ah Value.string) ra3 rc3 9 1 (out++[((L.getD (k).toNat tk0).ag)])::L0) w18:=S37
  have:=(bo fk5).1
  have S38:Sep w0 (box b [.slice a L.length c,.int .i64 ((k+1)+1),.int .i64 0,.int .i64 0,.int .i64 0] 66::aa tkE a c 91 4 L::aa (ah Value.string) ra3 rc3 9 1 (out++[((L.getD (k).toNat tk0).ag)])::L0) w18:=(S37.erase 2)
  have S39:=S38.front 1 rfl
  have S40:=S39.front 1 rfl
  have S41:Sep w0 (aa (ah Value.string) ra3 rc3 9 1 (out++[((L.getD (k).toNat tk0).ag)])::box b [.slice a L.length c,.int .i64 ((k+1)+1),.int .i64 0,.int .i64 0,.int .i64 0] 66::aa tkE a c 91 4 L::L0) w18:=S40.front 2 rfl
  exact J.t 6 (ih1 _ (show((L.length:Int)-((k+1)+1)).toNat<mm1 from by have:=(bo fk5).1;omega) ra3 rc3 (out++[((L.getD (k).toNat tk0).ag)]) ((k+1)+1) w18 (by have:=(bo fk5).1;(try rw[List.length_append,List.length_singleton]);omega) (by have:=(bo fk5).1;(try rw[List.length_append,List.length_singleton]);omega) (hQ.trans (ls_more fk1 fk2 fk3 fk4 fk5)) S41 rfl)
  have S42:=(S34.erase 0).front 2 rfl
  have S43:Sep w0 (box b [.slice a L.length c,.int .i64 (k+1),.int .i64 0,.int .i64 0,.int .i64 0] 66::aa tkE a c 91 4 L::box b1 [.int .i64 ((L.getD (k).toNat tk0).az),.string ((L.getD (k).toNat tk0).ag),.int .i64 ((L.getD (k).toNat tk0).ae),.int .i64 ((L.getD (k).toNat tk0).ac)] 91::aa (ah Value.string) ra3 rc3 9 1 (out++[((L.getD (k).toNat tk0).ag)])::L0) w17:=S42.front 2 rfl
  refine J.callF 39 25 #[.pointer (some ⟨b,0,none⟩),.string ⟨#[44]⟩] hb25 kr (more_not b a c L (k+1) (⟨#[44]⟩:ByteArray) _ _ _ S43 om hL fk5) ?_
  rintro _ w19 ⟨rfl,S44⟩
  replace S44:Sep w0 (box b [.slice a L.length c,.int .i64 (k+1),.int .i64 0,.int .i64 0,.int .i64 0] 66::aa tkE a c 91 4 L::box b1 [.int .i64 ((L.getD (k).toNat tk0).az),.string ((L.getD (k).toNat tk0).ag),.int .i64 ((L.getD (k).toNat tk0).ae),.int .i64 ((L.getD (k).toNat tk0).ac)] 91::aa (ah Value.string) ra3 rc3 9 1 (out++[((L.getD (k).toNat tk0).ag)])::L0) w19:=S44
  refine J.r 6 [true] [(41,.pointer (some ⟨b,0,none⟩))] []<|J.callF 42 27 #[.pointer (some ⟨b,0,none⟩)] hb27 kr (end_any b a c L (.ok (k+1)) 0 (k+1) 0 0 _ _ _ S44 bB om hL) ?_
  rintro _ w20 ⟨ze3,za3,zl3,zc3,rfl,hz3,hzb3,S45⟩
  replace S45:Sep w0 (box b [.slice a L.length c,.int .i64 za3,.int .i64 zl3,.int .i64 zc3,.int .i64 ze3] 66::aa tkE a c 91 4 L::box b1 [.int .i64 ((L.getD (k).toNat tk0).az),.string ((L.getD (k).toNat tk0).ag),.int .i64 ((L.getD (k).toNat tk0).ae),.int .i64 ((L.getD (k).toNat tk0).ac)] 91::aa (ah Value.string) ra3 rc3 9 1 (out++[((L.getD (k).toNat tk0).ag)])::L0) w20:=S45
  refine J.e 6 [.slice ra3 ((out++[((L.getD (k).toNat tk0).ag)]).length) rc3] func24 (hR _ _ ?_)
  have S46:Sep w0 (box b [.slice a L.length c,.int .i64 za3,.int .i64 zl3,.int .i64 zc3,.int .i64 ze3] 66::aa tkE a c 91 4 L::aa (ah Value.string) ra3 rc3 9 1 (out++[((L.getD (k).toNat tk0).ag)])::L0) w20:=(S45.erase 2)
  have S47:=S46.front 1 rfl
  have S48:=S47.front 1 rfl
  have S49:Sep w0 (aa (ah Value.string) ra3 rc3 9 1 (out++[((L.getD (k).toNat tk0).ag)])::box b [.slice a L.length c,.int .i64 za3,.int .i64 zl3,.int .i64 zc3,.int .i64 ze3] 66::aa tkE a c 91 4 L::L0) w20:=S48.front 2 rfl
  have hq_:=hQ.trans (ls_last fk1 fk2 fk3 fk4 fk5)
  exact⟨_,_,_,_,_,_,_,rfl,aP (congrArg Prod.fst hq_:lsZ L most (.ok k0)=_) (hz3),hzb3,⟨by (try rw[List.length_append,List.length_singleton]);omega,(fun hi_=>by rw[show lsV L most (.ok k0)=(lsF L most k0 []).2 from rfl,hq_];rfl)⟩,S49⟩
  have S50:=S2.front 2 rfl
  have S51:Sep w0 (box b [.slice a L.length c,.int .i64 k,.int .i64 0,.int .i64 0,.int .i64 0] 66::aa tkE a c 91 4 L::aa (ah Value.string) ra rc 9 1 out::L0) w1:=S50.front 2 rfl
  refine J.callF 10 55 #[.pointer (some ⟨b,0,none⟩)] hb55 kr (rname_miss b a c L k _ _ _ S51 om hL htk fk1 fk2) ?_
  rintro _ w21 ⟨rfl,S52⟩
  replace S52:Sep w0 (box b [.slice a L.length c,.int .i64 (k+1),.int .i64 (lnA L k),.int .i64 (clA L k),.int .i64 3] 66::aa tkE a c 91 4 L::aa (ah Value.string) ra rc 9 1 out::L0) w21:=S52
  refine J.nw 3 [] [(12,.bool false),(11,.agg #[.int .i64 ((L.getD (k).toNat tk0).az),.string ((L.getD (k).toNat tk0).ag),.int .i64 ((L.getD (k).toNat tk0).ae),.int .i64 ((L.getD (k).toNat tk0).ac)])] [] S52 6 [.int .i64 0,.string ByteArray.empty,.int .i64 0,.int .i64 0] 91 fun b5 w22 S53=>J.sb 0 [] [] [] S53 0 rfl [.int .i64 ((L.getD (k).toNat tk0).az),.string ((L.getD (k).toNat tk0).ag),.int .i64 ((L.getD (k).toNat tk0).ae),.int .i64 ((L.getD (k).toNat tk0).ac)] rfl fun w23 S54=>J.e 16 [.slice ra out.length rc] func24 (hR _ _ ?_)
  have S55:Sep w0 (box b [.slice a L.length c,.int .i64 (k+1),.int .i64 (lnA L k),.int .i64 (clA L k),.int .i64 3] 66::aa tkE a c 91 4 L::aa (ah Value.string) ra rc 9 1 out::L0) w23:=(S54.erase 0)
  have S56:=S55.front 1 rfl
  have S57:=S56.front 1 rfl
  have S58:Sep w0 (aa (ah Value.string) ra rc 9 1 out::box b [.slice a L.length c,.int .i64 (k+1),.int .i64 (lnA L k),.int .i64 (clA L k),.int .i64 3] 66::aa tkE a c 91 4 L::L0) w23:=S57.front 2 rfl
  have hq_:=hQ.trans (ls_miss fk1 fk2)
  exact⟨_,_,_,_,_,_,_,rfl,aP (congrArg Prod.fst hq_:lsZ L most (.ok k0)=_) (bp dE),⟨om,om⟩,⟨by (try rw[List.length_append,List.length_singleton]);omega,(fun hi_=>by rw[show lsZ L most (.ok k0)=(lsF L most k0 []).1 from rfl,hq_] at hi_;cases hi_)⟩,S58⟩
  have S59:=S2.front 2 rfl
  have S60:Sep w0 (box b [.slice a L.length c,.int .i64 k,.int .i64 0,.int .i64 0,.int .i64 0] 66::aa tkE a c 91 4 L::aa (ah Value.string) ra rc 9 1 out::L0) w1:=S59.front 2 rfl
  refine J.callF 10 55 #[.pointer (some ⟨b,0,none⟩)] hb55 kr (rname_end b a c L k _ _ _ S60 om hL fk1) ?_
  rintro _ w24 ⟨rfl,S61⟩
  replace S61:Sep w0 (box b [.slice a L.length c,.int .i64 k,.int .i64 (lnA L ((L.length:Int)-1)),.int .i64 (clA L ((L.length:Int)-1)),.int .i64 4] 66::aa tkE a c 91 4 L::aa (ah Value.string) ra rc 9 1 out::L0) w24:=S61
  refine J.nw 3 [] [(12,.bool false),(11,.agg #[.int .i64 0,.string ByteArray.empty,.int .i64 0,.int .i64 0])] [] S61 6 [.int .i64 0,.string ByteArray.empty,.int .i64 0,.int .i64 0] 91 fun b6 w25 S62=>J.sb 0 [] [] [] S62 0 rfl [.int .i64 0,.string ByteArray.empty,.int .i64 0,.int .i64 0] rfl fun w26 S63=>J.e 16 [.slice ra out.length rc] func24 (hR _ _ ?_)
  have S64:Sep w0 (box b [.slice a L.length c,.int .i64 k,.int .i64 (lnA L ((L.length:Int)-1)),.int .i64 (clA L ((L.length:Int)-1)),.int .i64 4] 66::aa tkE a c 91 4 L::aa (ah Value.string) ra rc 9 1 out::L0) w26:=(S63.erase 0)
  have S65:=S64.front 1 rfl
  have S66:=S65.front 1 rfl
  have S67:Sep w0 (aa (ah Value.string) ra rc 9 1 out::box b [.slice a L.length c,.int .i64 k,.int .i64 (lnA L ((L.length:Int)-1)),.int .i64 (clA L ((L.length:Int)-1)),.int .i64 4] 66::aa tkE a c 91 4 L::L0) w26:=S66.front 2 rfl
  have hq_:=hQ.trans (ls_end fk1)
  exact⟨_,_,_,_,_,_,_,rfl,aP (congrArg Prod.fst hq_:lsZ L most (.ok k0)=_) (rz_en rfl),⟨om,om⟩,⟨by (try rw[List.length_append,List.length_singleton]);omega,(fun hi_=>by rw[show lsZ L most (.ok k0)=(lsF L most k0 []).1 from rfl,hq_] at hi_;cases hi_)⟩,S67⟩
 exact J.t 10 (L24_1 _ none 0 ([]) k0 w om (by simp;omega) (rfl) S1 rfl)

theorem list_no (b:Nat) (a:Option Addr) (c:Nat) (L:List Tk) (k l cc e:Int) (most:Int) (w0:World) (L0:List Eng.Claim) (w:World) (S0:Sep w0 (box b [.slice a L.length c,.int .i64 k,.int .i64 l,.int .i64 cc,.int .i64 e] 66::aa tkE a c 91 4 L::L0) w) (hk:0≤k∧k≤(L.length:Int)) (he:e≠0):Ret prog 24 #[.pointer (some ⟨b,0,none⟩),.int .i64 most] w (fun v w'=>∃ e' a' l' c' ra rc out,v=.slice ra out.length rc∧Rz (.no e l cc) e' a' l' c'∧(0≤a'∧a'≤(L.length:Int))∧(out.length≤1000000∧(isZ (.no e l cc)=true→out=lsV L most (.no e l cc)))∧Sep w0 (aa (ah Value.string) ra rc 9 1 out::box b [.slice a L.length c,.int .i64 a',.int .i64 l',.int .i64 c',.int .i64 e'] 66::aa tkE a c 91 4 L::L0) w'):=by
 refine Ret.st (N:=44) func24 fun R hR _=>J.r 14 [] [(9,.pointer (some ⟨b,0,none⟩)),(5,.slice none 0 0)] []<|J.callF 10 55 #[.pointer (some ⟨b,0,none⟩)] hb55 kr (rname_no b a c L k l cc e _ _ _ S0 (by first | assumption | decide | omega)) ?_
 rintro _ w1 ⟨rfl,S1⟩
 replace S1:Sep w0 (box b [.slice a L.length c,.int .i64 k,.int .i64 l,.int .i64 cc,.int .i64 e] 66::aa tkE a c 91 4 L::L0) w1:=S1
 refine J.nw 3 [] [(12,.bool false),(11,.agg #[.int .i64 0,.string ByteArray.empty,.int .i64 0,.int .i64 0])] [] S1 6 [.int .i64 0,.string ByteArray.empty,.int .i64 0,.int .i64 0] 91 fun b1 w2 S2=>J.sb 0 [] [] [] S2 0 rfl [.int .i64 0,.string ByteArray.empty,.int .i64 0,.int .i64 0] rfl fun w3 S3=>J.e 16 [.slice none 0 0] func24 (hR _ _ ?_)
 exact⟨_,_,_,_,none,0,[],rfl,rz_no he,hk,⟨dE,fun h_=>by cases h_⟩,(S3.erase 0).nilRow 9 1⟩

theorem list_any (b:Nat) (a:Option Addr) (c:Nat) (L:List Tk) (X:Pz) (e k l cc:Int) (most:Int) (w0:World) (L0:List Eng.Claim) (w:World) (S0:Sep w0 (box b [.slice a L.length c,.int .i64 k,.int .i64 l,.int .i64 cc,.int .i64 e] 66::aa tkE a c 91 4 L::L0) w) (hz:Rz X e k l cc) (hk:0≤k∧k≤(L.length:Int)) (hL:1≤L.length∧L.length≤1000000) (htk:∀ j,j<L.length→1≤(L.getD j tk0).ag.size∧(L.getD j tk0).ag.size≤1000000):Ret prog 24 #[.pointer (some ⟨b,0,none⟩),.int .i64 most] w (fun v w'=>∃ e' a' l' c' ra rc out,v=.slice ra out.length rc∧Rz (lsZ L most (X)) e' a' l' c'∧(0≤a'∧a'≤(L.length:Int))∧(out.length≤1000000∧(isZ (lsZ L most (X))=true→out=lsV L most (X)))∧Sep w0 (aa (ah Value.string) ra rc 9 1 out::box b [.slice a L.length c,.int .i64 a',.int .i64 l',.int .i64 c',.int .i64 e'] 66::aa tkE a c 91 4 L::L0) w'):=by
  cases X with
  | ok j=>obtain ⟨h1,h2,h3,h4⟩:=hz;subst h1 h2 h3 h4;exact list_ok b a c L k most w0 L0 w S0 hk hL htk
  | no x y z=>obtain ⟨h1,h2,h3,h4⟩:=hz;subst h1 h3 h4;exact list_no b a c L k l cc e most w0 L0 w S0 hk h2
end
end Go.Proofs.YtdneanhkcnfgdaaGreatDoor

namespace Go.Proofs
open Go.Shelf
def Tryz.lays169_ren:Go.Shelf.Ren:=⟨fun | 169=>21 | n=>n,fun | 70=>47 | 9=>9 | 0=>0 | 72=>50 | 37=>48 | 127=>87 | 3=>3 | 5=>5 | n=>n,fun | n=>n⟩
theorem Tryz.lays169:Go.Proofs.Lays.n169 Tryz.prog Tryz.lays169_ren:={
  mixed:=by kernel_rfl
  f169:=Tryz.func21.trans (congrArg some (by kernel_rfl))
  t0:=Tryz.underlying0
  a0:=Tryz.isAgg0
  z0:=Tryz.sizeOf0
  v0:=Tryz.zeroValue0
  t3:=Tryz.underlying3
  a3:=Tryz.isAgg3
  z3:=Tryz.sizeOf3
  v3:=Tryz.zeroValue3
  t9:=Tryz.underlying9
  a9:=Tryz.isAgg9
  z9:=Tryz.sizeOf9
  v9:=Tryz.zeroValue9
  t37:=Tryz.underlying48
  a37:=Tryz.isAgg48
  z37:=Tryz.sizeOf48
  v37:=Tryz.zeroValue48
  t70:=Tryz.underlying47
  a70:=Tryz.isAgg47
  z70:=Tryz.sizeOf47
  v70:=Tryz.zeroValue47
  t72:=Tryz.underlying50
  a72:=Tryz.isAgg50
  z72:=Tryz.sizeOf50
  v72:=Tryz.zeroValue50
  t127:=Tryz.underlying87
  a127:=Tryz.isAgg87
  z127:=Tryz.sizeOf87
  v127:=Tryz.zeroValue87 }
theorem Tryz.Builder_Extra_169:Builder.Extra Tryz.prog Tryz.lays169_ren:={
  sizeBuilder:=by kernel_rfl
  liesBuilder:=by kernel_rfl
  t5:=Tryz.underlying5
  a5:=Tryz.isAgg5
  z5:=Tryz.sizeOf5
  v5:=Tryz.zeroValue5
  infoByte:=by kernel_rfl
  cellsByte:=by kernel_rfl
  sizeByte:=by kernel_rfl
  neB5:=by decide }
def Tryz.lays156_ren:Go.Shelf.Ren:=⟨fun | 156=>19 | 165=>49 | 166=>18 | 169=>21 | 240=>48 | 241=>69 | 276=>68 | 277=>74 | n=>n,fun | 31=>22 | 9=>9 | 3=>3 | 4=>4 | 0=>0 | 20=>20 | 72=>50 | 76=>53 | 70=>47 | 37=>48 | 75=>52 | 127=>87 | 164=>101 | 5=>5 | 80=>59 | n=>n,fun | n=>n⟩
theorem Tryz.lays156:Go.Proofs.Lays.n156 Tryz.prog Tryz.lays156_ren:={
  mixed:=by kernel_rfl
  f156:=Tryz.func19.trans (congrArg some (by kernel_rfl))
  f165:=Tryz.func49.trans (congrArg some (by kernel_rfl))
  f166:=Tryz.func18.trans (congrArg some (by kernel_rfl))
  f169:=Tryz.func21.trans (congrArg some (by kernel_rfl))
  f240:=Tryz.func48.trans (congrArg some (by kernel_rfl))
  f241:=Tryz.func69.trans (congrArg some (by kernel_rfl))
  f276:=Tryz.func68.trans (congrArg some (by kernel_rfl))
  f277:=Tryz.func74.trans (congrArg some (by kernel_rfl))
  t0:=Tryz.underlying0
  a0:=Tryz.isAgg0
  z0:=Tryz.sizeOf0
  v0:=Tryz.zeroValue0
  t3:=Tryz.underlying3
  a3:=Tryz.isAgg3
  z3:=Tryz.sizeOf3
  v3:=Tryz.zeroValue3
  t4:=Tryz.underlying4
  a4:=Tryz.isAgg4
  z4:=Tryz.sizeOf4
  v4:=Tryz.zeroValue4
  t9:=Tryz.underlying9
  a9:=Tryz.isAgg9
  z9:=Tryz.sizeOf9
  v9:=Tryz.zeroValue9
  t20:=Tryz.underlying20
  a20:=Tryz.isAgg20
  z20:=Tryz.sizeOf20
  v20:=Tryz.zeroValue20
  t31:=Tryz.underlying22
  a31:=Tryz.isAgg22
  z31:=Tryz.sizeOf22
  v31:=Tryz.zeroValue22
  t37:=Tryz.underlying48
  a37:=Tryz.isAgg48
  z37:=Tryz.sizeOf48
  v37:=Tryz.zeroValue48
  t70:=Tryz.underlying47
  a70:=Tryz.isAgg47
  z70:=Tryz.sizeOf47
  v70:=Tryz.zeroValue47
  t72:=Tryz.underlying50
  a72:=Tryz.isAgg50
  z72:=Tryz.sizeOf50
  v72:=Tryz.zeroValue50
  t75:=Tryz.underlying52
  a75:=Tryz.isAgg52
  z75:=Tryz.sizeOf52
  v75:=Tryz.zeroValue52
  t76:=Tryz.underlying53
  a76:=Tryz.isAgg53
  z76:=Tryz.sizeOf53
  v76:=Tryz.zeroValue53
  t127:=Tryz.underlying87
  a127:=Tryz.isAgg87
  z127:=Tryz.sizeOf87
  v127:=Tryz.zeroValue87
  t164:=Tryz.underlying101
  a164:=Tryz.isAgg101
  z164:=Tryz.sizeOf101
  v164:=Tryz.zeroValue101 }
theorem Tryz.Builder_Extra_156:Builder.Extra Tryz.prog Tryz.lays156_ren:={
  sizeBuilder:=by kernel_rfl
  liesBuilder:=by kernel_rfl
  t5:=Tryz.underlying5
  a5:=Tryz.isAgg5
  z5:=Tryz.sizeOf5
  v5:=Tryz.zeroValue5
  infoByte:=by kernel_rfl
  cellsByte:=by kernel_rfl
  sizeByte:=by kernel_rfl
  neB5:=by decide }
open Go.RowKit in
theorem Tryz.strings_Join_none (a:Option Addr) (c:Nat) (sep:ByteArray) (w:World) :
    Calls Tryz.prog 19 #[.slice a 0 c,.string sep] w fun e w'=>e=.returned (.string ⟨#[]⟩)∧w'=w:=Any.strings_Join_none Tryz.lays156 Tryz.Builder_Extra_156 a c sep w
open Go.RowKit in
theorem Tryz.strings_Join (bk o c:Nat) (xs:List ByteArray) (sep:ByteArray) (w:World) (hcells:∀ (j:Nat) x,xs[j]? =some x→w.cell? ⟨bk,o+j,none⟩=some (.string x)) (hbk:bk<w.heap.size) (hN:xs.length≤140737488355328) (hcap:xs.length≤c) (hlen:(Lib.join (xs.map (·.data.toList)) sep.data.toList).length≤140737488355328) :
    Calls Tryz.prog 19 #[.slice (some ⟨bk,o,none⟩) xs.length c,.string sep] w fun e w'=>e=.returned (.string ⟨(Lib.join (xs.map (·.data.toList)) sep.data.toList).toArray⟩)∧Below w.heap.size w w':=Any.strings_Join Tryz.lays156 Tryz.Builder_Extra_156 bk o c xs sep w hcells hbk hN hcap hlen
open Go.RowKit in
theorem Tryz.Builder_String_any_k (B b:Nat) (l:List UInt8) (w:World) (h:Lib.IsBuilderF 50 5 B b (Lib.byteCells l) w) (hBw:B≤w.heap.size) :
    Calls Tryz.prog 21 #[.pointer (some ⟨b,0,none⟩)] w fun e w'=>e=.returned (.string ⟨l.toArray⟩)∧(Lib.IsBuilderF 50 5 B b (Lib.byteCells l) w'∧Below B w w'∧Lib.OthersKept 5 (some b) w w'):=Any.Builder_String_any_k Tryz.lays169 Tryz.Builder_Extra_169 B b l w h hBw
def Tryz.laysM171_ren:Go.Shelf.Ren:=⟨fun | 171=>20 | 243=>50 | 246=>70 | 283=>75 | 284=>76 | 285=>77 | 286=>78 | 129=>85 | 317=>84 | 318=>86 | 319=>87 | 320=>88 | 337=>98 | 338=>99 | n=>n,fun | 3=>3 | 9=>9 | 2=>2 | 4=>4 | 171=>106 | 0=>0 | 53=>107 | 37=>48 | 5=>5 | 173=>110 | 212=>117 | 51=>118 | 20=>20 | 213=>119 | 46=>120 | 232=>139 | 233=>140 | n=>n,fun | 17=>1 | 18=>4 | 19=>5 | n=>n⟩
theorem Tryz.laysM171:Go.Proofs.LaysM.n171 Tryz.prog Tryz.laysM171_ren:={
  mixed:=by kernel_rfl
  f129:=Tryz.func85.trans (congrArg some (by kernel_rfl))
  f171:=Tryz.func20.trans (congrArg some (by kernel_rfl))
  f243:=Tryz.func50.trans (congrArg some (by kernel_rfl))
  f246:=Tryz.func70.trans (congrArg some (by kernel_rfl))
  f283:=Tryz.func75.trans (congrArg some (by kernel_rfl))
  f284:=Tryz.func76.trans (congrArg some (by kernel_rfl))
  f285:=Tryz.func77.trans (congrArg some (by kernel_rfl))
  f286:=Tryz.func78.trans (congrArg some (by kernel_rfl))
  f317:=Tryz.func84.trans (congrArg some (by kernel_rfl))
  f318:=Tryz.func86.trans (congrArg some (by kernel_rfl))
  f319:=Tryz.func87.trans (congrArg some (by kernel_rfl))
  f320:=Tryz.func88.trans (congrArg some (by kernel_rfl))
  f337:=Tryz.func98.trans (congrArg some (by kernel_rfl))
  f338:=Tryz.func99.trans (congrArg some (by kernel_rfl))
  t0:=Tryz.underlying0
  a0:=Tryz.isAgg0
  z0:=Tryz.sizeOf0
  v0:=Tryz.zeroValue0
  t2:=Tryz.underlying2
  a2:=Tryz.isAgg2
  z2:=Tryz.sizeOf2
  v2:=Tryz.zeroValue2
  t3:=Tryz.underlying3
  a3:=Tryz.isAgg3
  z3:=Tryz.sizeOf3
  v3:=Tryz.zeroValue3
  t4:=Tryz.underlying4
  a4:=Tryz.isAgg4
  z4:=Tryz.sizeOf4
  v4:=Tryz.zeroValue4
  t5:=Tryz.underlying5
  a5:=Tryz.isAgg5
  z5:=Tryz.sizeOf5
  v5:=Tryz.zeroValue5
  t9:=Tryz.underlying9
  a9:=Tryz.isAgg9
  z9:=Tryz.sizeOf9
  v9:=Tryz.zeroValue9
  t20:=Tryz.underlying20
  a20:=Tryz.isAgg20
  z20:=Tryz.sizeOf20
  v20:=Tryz.zeroValue20
  t37:=Tryz.underlying48
  a37:=Tryz.isAgg48
  z37:=Tryz.sizeOf48
  v37:=Tryz.zeroValue48
  t46:=Tryz.underlying120
  a46:=Tryz.isAgg120
  z46:=Tryz.sizeOf120
  v46:=Tryz.zeroValue120
  t51:=Tryz.underlying118
  a51:=Tryz.isAgg118
  z51:=Tryz.sizeOf118
  v51:=Tryz.zeroValue118
  t53:=Tryz.underlying107
  a53:=Tryz.isAgg107
  z53:=Tryz.sizeOf107
  v53:=Tryz.zeroValue107
  t171:=Tryz.underlying106
  a171:=Tryz.isAgg106
  z171:=Tryz.sizeOf106
  v171:=Tryz.zeroValue106
  t173:=Tryz.underlying110
  a173:=Tryz.isAgg110
  z173:=Tryz.sizeOf110
  v173:=Tryz.zeroValue110
  t212:=Tryz.underlying117
  a212:=Tryz.isAgg117
  z212:=Tryz.sizeOf117
  v212:=Tryz.zeroValue117
  t213:=Tryz.underlying119
  a213:=Tryz.isAgg119
  z213:=Tryz.sizeOf119
  t232:=Tryz.underlying139
  a232:=Tryz.isAgg139
  z232:=Tryz.sizeOf139
  v232:=Tryz.zeroValue139
  t233:=Tryz.underlying140
  a233:=Tryz.isAgg140
  z233:=Tryz.sizeOf140
  v233:=Tryz.zeroValue140
  g17:=by kernel_rfl
  g18:=by kernel_rfl
  g19:=by kernel_rfl
  i0:=by kernel_rfl
  i2:=by kernel_rfl
  i3:=by kernel_rfl
  i4:=by kernel_rfl
  i5:=by kernel_rfl
  i9:=by kernel_rfl
  i20:=by kernel_rfl
  i37:=by kernel_rfl
  i46:=by kernel_rfl
  i51:=by kernel_rfl
  i53:=by kernel_rfl
  i171:=by kernel_rfl
  i173:=by kernel_rfl
  i212:=by kernel_rfl
  i232:=by kernel_rfl
  i233:=by kernel_rfl
  m17:=by kernel_rfl
  m18:=by kernel_rfl
  m19:=by kernel_rfl }
open Go.RowKit Go.Sort Go.Lib in
theorem Tryz.strconv_Itoa (n:Int) (h0: -9223372036854775808≤n) (h1:n≤9223372036854775807) (w:World) (htab:Lib.TabIs Tryz.prog w "internal/strconv.uint64pow10" .u64 Lib.pow10Tab) :
    Calls Tryz.prog 20 #[.int .i64 n] w fun e w'=>e=.returned (.string ⟨(Lib.itoa n).toArray⟩)∧∃ k os,w'=grow (w.drewN k) os:=Any.strconv_Itoa Tryz.laysM171 n h0 h1 w htab
def Tryz.laysC172_ren:Go.Shelf.Ren:=⟨fun | 172=>72 | 244=>82 | 245=>83 | 247=>93 | 279=>94 | 280=>95 | 281=>96 | 282=>97 | 287=>105 | 316=>106 | 171=>20 | 205=>107 | 321=>110 | 322=>111 | 243=>50 | 246=>70 | 283=>75 | 284=>76 | 285=>77 | 286=>78 | 129=>85 | 317=>84 | 318=>86 | 319=>87 | 320=>88 | 337=>98 | 338=>99 | n=>n,fun | 9=>9 | 3=>3 | 75=>52 | 76=>53 | 4=>4 | 5=>5 | 167=>126 | 37=>48 | 0=>0 | 85=>127 | 2=>2 | 168=>129 | 53=>107 | 175=>133 | 46=>120 | 210=>137 | 127=>87 | 145=>150 | 143=>148 | 21=>21 | 171=>106 | 173=>110 | 212=>117 | 51=>118 | 20=>20 | 213=>119 | 232=>139 | 233=>140 | 80=>59 | n=>n,fun | 15=>2 | 16=>3 | 17=>1 | 18=>4 | 19=>5 | n=>n⟩
theorem Tryz.laysC172:Go.Proofs.LaysC.n172 Tryz.prog Tryz.laysC172_ren:={
  mixed:=by kernel_rfl
  f129:=Tryz.func85.trans (congrArg some (by kernel_rfl))
  f171:=Tryz.func20.trans (congrArg some (by kernel_rfl))
  f172:=Tryz.func72.trans (congrArg some (by kernel_rfl))
  f205:=Tryz.func107.trans (congrArg some (by kernel_rfl))
  f243:=Tryz.func50.trans (congrArg some (by kernel_rfl))
  f244:=Tryz.func82.trans (congrArg some (by kernel_rfl))
  f245:=Tryz.func83.trans (congrArg some (by kernel_rfl))
  f246:=Tryz.func70.trans (congrArg some (by kernel_rfl))
  f247:=Tryz.func93.trans (congrArg some (by kernel_rfl))
  f279:=Tryz.func94.trans (congrArg some (by kernel_rfl))
  f280:=Tryz.func95.trans (congrArg some (by kernel_rfl))
  f281:=Tryz.func96.trans (congrArg some (by kernel_rfl))
  f282:=Tryz.func97.trans (congrArg some (by kernel_rfl))
  f283:=Tryz.func75.trans (congrArg some (by kernel_rfl))
  f284:=Tryz.func76.trans (congrArg some (by kernel_rfl))
  f285:=Tryz.func77.trans (congrArg some (by kernel_rfl))
  f286:=Tryz.func78.trans (congrArg some (by kernel_rfl))
  f287:=Tryz.func105.trans (congrArg some (by kernel_rfl))
  f316:=Tryz.func106.trans (congrArg some (by kernel_rfl))
  f317:=Tryz.func84.trans (congrArg some (by kernel_rfl))
  f318:=Tryz.func86.trans (congrArg some (by kernel_rfl))
  f319:=Tryz.func87.trans (congrArg some (by kernel_rfl))
  f320:=Tryz.func88.trans (congrArg some (by kernel_rfl))
  f321:=Tryz.func110.trans (congrArg some (by kernel_rfl))
  f322:=Tryz.func111.trans (congrArg some (by kernel_rfl))
  f337:=Tryz.func98.trans (congrArg some (by kernel_rfl))
  f338:=Tryz.func99.trans (congrArg some (by kernel_rfl))
  t0:=Tryz.underlying0
  a0:=Tryz.isAgg0
  z0:=Tryz.sizeOf0
  v0:=Tryz.zeroValue0
  t2:=Tryz.underlying2
  a2:=Tryz.isAgg2
  z2:=Tryz.sizeOf2
  v2:=Tryz.zeroValue2
  t3:=Tryz.underlying3
  a3:=Tryz.isAgg3
  z3:=Tryz.sizeOf3
  v3:=Tryz.zeroValue3
  t4:=Tryz.underlying4
  a4:=Tryz.isAgg4
  z4:=Tryz.sizeOf4
  v4:=Tryz.zeroValue4
  t5:=Tryz.underlying5
  a5:=Tryz.isAgg5
  z5:=Tryz.sizeOf5
  v5:=Tryz.zeroValue5
  t9:=Tryz.underlying9
  a9:=Tryz.isAgg9
  z9:=Tryz.sizeOf9
  v9:=Tryz.zeroValue9
  t20:=Tryz.underlying20
  a20:=Tryz.isAgg20
  z20:=Tryz.sizeOf20
  v20:=Tryz.zeroValue20
  t21:=Tryz.underlying21
  a21:=Tryz.isAgg21
  z21:=Tryz.sizeOf21
  v21:=Tryz.zeroValue21
  t37:=Tryz.underlying48
  a37:=Tryz.isAgg48
  z37:=Tryz.sizeOf48
  v37:=Tryz.zeroValue48
  t46:=Tryz.underlying120
  a46:=Tryz.isAgg120
  z46:=Tryz.sizeOf120
  v46:=Tryz.zeroValue120
  t51:=Tryz.underlying118
  a51:=Tryz.isAgg118
  z51:=Tryz.sizeOf118
  v51:=Tryz.zeroValue118
  t53:=Tryz.underlying107
  a53:=Tryz.isAgg107
  z53:=Tryz.sizeOf107
  v53:=Tryz.zeroValue107
  t75:=Tryz.underlying52
  a75:=Tryz.isAgg52
  z75:=Tryz.sizeOf52
  v75:=Tryz.zeroValue52
  t76:=Tryz.underlying53
  a76:=Tryz.isAgg53
  z76:=Tryz.sizeOf53
  v76:=Tryz.zeroValue53
  t85:=Tryz.underlying127
  a85:=Tryz.isAgg127
  z85:=Tryz.sizeOf127
  v85:=Tryz.zeroValue127
  t127:=Tryz.underlying87
  a127:=Tryz.isAgg87
  z127:=Tryz.sizeOf87
  v127:=Tryz.zeroValue87
  t143:=Tryz.underlying148
  a143:=Tryz.isAgg148
  z143:=Tryz.sizeOf148
  v143:=Tryz.zeroValue148
  t145:=Tryz.underlying150
  a145:=Tryz.isAgg150
  z145:=Tryz.sizeOf150
  v145:=Tryz.zeroValue150
  t167:=Tryz.underlying126
  a167:=Tryz.isAgg126
  z167:=Tryz.sizeOf126
  v167:=Tryz.zeroValue126
  t168:=Tryz.underlying129
  a168:=Tryz.isAgg129
  z168:=Tryz.sizeOf129
  v168:=Tryz.zeroValue129
  t171:=Tryz.underlying106
  a171:=Tryz.isAgg106
  z171:=Tryz.sizeOf106
  v171:=Tryz.zeroValue106
  t173:=Tryz.underlying110
  a173:=Tryz.isAgg110
  z173:=Tryz.sizeOf110
  v173:=Tryz.zeroValue110
  t175:=Tryz.underlying133
  a175:=Tryz.isAgg133
  z175:=Tryz.sizeOf133
  v175:=Tryz.zeroValue133
  t210:=Tryz.underlying137
  a210:=Tryz.isAgg137
  z210:=Tryz.sizeOf137
  v210:=Tryz.zeroValue137
  t212:=Tryz.underlying117
  a212:=Tryz.isAgg117
  z212:=Tryz.sizeOf117
  v212:=Tryz.zeroValue117
  t213:=Tryz.underlying119
  a213:=Tryz.isAgg119
  z213:=Tryz.sizeOf119
  t232:=Tryz.underlying139
  a232:=Tryz.isAgg139
  z232:=Tryz.sizeOf139
  v232:=Tryz.zeroValue139
  t233:=Tryz.underlying140
  a233:=Tryz.isAgg140
  z233:=Tryz.sizeOf140
  v233:=Tryz.zeroValue140
  g15:=by kernel_rfl
  g16:=by kernel_rfl
  g17:=by kernel_rfl
  g18:=by kernel_rfl
  g19:=by kernel_rfl
  t80:=Tryz.underlying59
  a80:=Tryz.isAgg59
  z80:=Tryz.sizeOf59
  v80:=Tryz.zeroValue59
  i0:=by kernel_rfl
  i2:=by kernel_rfl
  i3:=by kernel_rfl
  i4:=by kernel_rfl
  i5:=by kernel_rfl
  i9:=by kernel_rfl
  i20:=by kernel_rfl
  i21:=by kernel_rfl
  i37:=by kernel_rfl
  i46:=by kernel_rfl
  i51:=by kernel_rfl
  i53:=by kernel_rfl
  i75:=by kernel_rfl
  i76:=by kernel_rfl
  i80:=by kernel_rfl
  i85:=by kernel_rfl
  i127:=by kernel_rfl
  i143:=by kernel_rfl
  i145:=by kernel_rfl
  i167:=by kernel_rfl
  i168:=by kernel_rfl
  i171:=by kernel_rfl
  i173:=by kernel_rfl
  i175:=by kernel_rfl
  i210:=by kernel_rfl
  i212:=by kernel_rfl
  i232:=by kernel_rfl
  i233:=by kernel_rfl
  m15:=by kernel_rfl
  m16:=by kernel_rfl
  m17:=by kernel_rfl
  m18:=by kernel_rfl
  m19:=by kernel_rfl
  c0:=by kernel_rfl
  c2:=by kernel_rfl
  c3:=by kernel_rfl
  c4:=by kernel_rfl
  c5:=by kernel_rfl
  c9:=by kernel_rfl
  c20:=by kernel_rfl
  c21:=by kernel_rfl
  c37:=by kernel_rfl
  c46:=by kernel_rfl
  c51:=by kernel_rfl
  c53:=by kernel_rfl
  c75:=by kernel_rfl
  c76:=by kernel_rfl
  c80:=by kernel_rfl
  c85:=by kernel_rfl
  c127:=by kernel_rfl
  c143:=by kernel_rfl
  c145:=by kernel_rfl
  c167:=by kernel_rfl
  c168:=by kernel_rfl
  c171:=by kernel_rfl
  c173:=by kernel_rfl
  c175:=by kernel_rfl
  c210:=by kernel_rfl
  c212:=by kernel_rfl
  c213:=by kernel_rfl
  c232:=by kernel_rfl
  c233:=by kernel_rfl }
open Go.RowKit in
theorem Tryz.strconv_Atoi_ok (s:ByteArray) (hmax:s.size≤9223372036854775806) (v:Int) (h:Lib.atoiAll s.data.toList=.ok v) (w:World) :
    Calls Tryz.prog 72 #[.string s] w fun e w'=>e=.returned (.tuple #[.int .i64 v,.nilIface])∧(w'=w∨∃ t,w'=Lib.bytesWorld w 5 t):=Any.strconv_Atoi_ok Tryz.laysC172 s hmax v h w
def Tryz.lays146_ren:Go.Shelf.Ren:=⟨fun | 146=>51 | 221=>71 | 268=>79 | 138=>80 | 143=>81 | 195=>89 | 197=>90 | 218=>91 | 219=>92 | 260=>100 | 217=>101 | 225=>102 | 224=>103 | 267=>104 | 266=>108 | 314=>109 | n=>n,fun | 9=>9 | 31=>22 | 3=>3 | 4=>4 | 0=>0 | 105=>123 | 21=>21 | 5=>5 | 46=>120 | 119=>141 | 139=>144 | 138=>143 | 146=>145 | 51=>118 | n=>n,fun | 1=>0 | 3=>6 | 4=>7 | n=>n⟩
theorem Tryz.lays146:Go.Proofs.Lays.n146 Tryz.prog Tryz.lays146_ren:={
  mixed:=by kernel_rfl
  f138:=Tryz.func80.trans (congrArg some (by kernel_rfl))
  f143:=Tryz.func81.trans (congrArg some (by kernel_rfl))
  f146:=Tryz.func51.trans (congrArg some (by kernel_rfl))
  f195:=Tryz.func89.trans (congrArg some (by kernel_rfl))
  f197:=Tryz.func90.trans (congrArg some (by kernel_rfl))
  f217:=Tryz.func101.trans (congrArg some (by kernel_rfl))
  f218:=Tryz.func91.trans (congrArg some (by kernel_rfl))
  f219:=Tryz.func92.trans (congrArg some (by kernel_rfl))
  f221:=Tryz.func71.trans (congrArg some (by kernel_rfl))
  f224:=Tryz.func103.trans (congrArg some (by kernel_rfl))
  f225:=Tryz.func102.trans (congrArg some (by kernel_rfl))
  f260:=Tryz.func100.trans (congrArg some (by kernel_rfl))
  f266:=Tryz.func108.trans (congrArg some (by kernel_rfl))
  f267:=Tryz.func104.trans (congrArg some (by kernel_rfl))
  f268:=Tryz.func79.trans (congrArg some (by kernel_rfl))
  f314:=Tryz.func109.trans (congrArg some (by kernel_rfl))
  t0:=Tryz.underlying0
  a0:=Tryz.isAgg0
  z0:=Tryz.sizeOf0
  v0:=Tryz.zeroValue0
  t3:=Tryz.underlying3
  a3:=Tryz.isAgg3
  z3:=Tryz.sizeOf3
  v3:=Tryz.zeroValue3
  t4:=Tryz.underlying4
  a4:=Tryz.isAgg4
  z4:=Tryz.sizeOf4
  v4:=Tryz.zeroValue4
  t5:=Tryz.underlying5
  a5:=Tryz.isAgg5
  z5:=Tryz.sizeOf5
  v5:=Tryz.zeroValue5
  t9:=Tryz.underlying9
  a9:=Tryz.isAgg9
  z9:=Tryz.sizeOf9
  v9:=Tryz.zeroValue9
  t21:=Tryz.underlying21
  a21:=Tryz.isAgg21
  z21:=Tryz.sizeOf21
  v21:=Tryz.zeroValue21
  t31:=Tryz.underlying22
  a31:=Tryz.isAgg22
  z31:=Tryz.sizeOf22
  v31:=Tryz.zeroValue22
  t46:=Tryz.underlying120
  a46:=Tryz.isAgg120
  z46:=Tryz.sizeOf120
  v46:=Tryz.zeroValue120
  t51:=Tryz.underlying118
  a51:=Tryz.isAgg118
  z51:=Tryz.sizeOf118
  v51:=Tryz.zeroValue118
  t105:=Tryz.underlying123
  a105:=Tryz.isAgg123
  z105:=Tryz.sizeOf123
  v105:=Tryz.zeroValue123
  t119:=Tryz.underlying141
  a119:=Tryz.isAgg141
  z119:=Tryz.sizeOf141
  t138:=Tryz.underlying143
  a138:=Tryz.isAgg143
  z138:=Tryz.sizeOf143
  v138:=Tryz.zeroValue143
  t139:=Tryz.underlying144
  a139:=Tryz.isAgg144
  z139:=Tryz.sizeOf144
  v139:=Tryz.zeroValue144
  t146:=Tryz.underlying145
  a146:=Tryz.isAgg145
  z146:=Tryz.sizeOf145
  v146:=Tryz.zeroValue145
  g1:=by kernel_rfl
  g3:=by kernel_rfl
  g4:=by kernel_rfl }
open Go.RowKit Go.Lib in
theorem Tryz.strings_Split (s sep:ByteArray) (m:Int) (w:World) (hs:s.size<4294967281) (hm:w.cell? ⟨0,0,none⟩=some (.int .i64 m)) (h1:1≤sep.size) :
    Calls Tryz.prog 51 #[.string s,.string sep] w fun e w' =>
      e=.returned (.slice (some ⟨w.heap.size,0,none⟩) (Lib.countB s sep+1) (Lib.countB s sep+1))∧w'=w.alloc (.cells ((Lib.splitB sep 0 (Lib.countB s sep) s).map Value.string).toArray 9):=Any.strings_Split Tryz.lays146 (by kernel_rfl) s sep m w hs hm h1
end Go.Proofs
namespace Go.Proofs.YtdneanhkcnfgdaaGreatDoor
noncomputable section
open Go.Eng Go.RowKit Go.Proofs.Tryz
set_option maxRecDepth 20000
set_option maxHeartbeats 20000000
abbrev TabW (w:World):Prop:=Lib.TabIs prog w "internal/strconv.uint64pow10" .u64 Lib.pow10Tab∧ErrW w 2∧ErrW w 3∧IntW w 0 .i64
theorem cv {w w':World} {L:List Go.Eng.Claim} (h:TabW w) (S:Sep w L w'):TabW w':=⟨S.tab (g:=1) kr h.1,(h.2.1).sep S,(h.2.2.1).sep S,(h.2.2.2).sep S⟩
theorem hb72:aJ prog 72:=fun _ _=>by kernel_rfl
theorem atoi_ok (s:ByteArray) (w:World) (hs:s.size≤281474976710656) (h:formL (ls s)=true) (hf:fitL (valL (ls s))=true):Ret prog 72 #[.string s] w (fun v w'=>v=.tuple #[.int .i64 (valL (ls s)),.nilIface]∧Sep w [] w') :=
  Ret.of_calls (Tryz.strconv_Atoi_ok s om (valL (ls s)) (by rw[atoi_form h,if_pos hf]) w) fun w' hw=>⟨rfl,by rcases hw with rfl | ⟨t,rfl⟩;exact .refl _;exact .of_below (Lib.bytesWorld_below _ _ _)⟩
theorem hb59:aJ prog 59:=fun _ _=>by kernel_rfl
def K59_0:=List.drop 1 (adv 30 [false] (aY Tryz.f59))
def K59_1:=adv 9 [] K59_0
theorem num_ok (b:Nat) (a:Option Addr) (c:Nat) (L:List Tk) (k:Int) (w0:World) (L0:List Eng.Claim) (w:World) (S0:Sep w0 (box b [.slice a L.length c,.int .i64 k,.int .i64 0,.int .i64 0,.int .i64 0] 66::aa tkE a c 91 4 L::L0) w) (hk:0≤k∧k≤(L.length:Int)) (hL:1≤L.length∧L.length≤1000000) (htk:∀ j,j<L.length→1≤(L.getD j tk0).ag.size∧(L.getD j tk0).ag.size≤1000000):Ret prog 59 #[.pointer (some ⟨b,0,none⟩)] w (fun v w'=>∃ e' a' l' c' x,v=.int .i64 x∧Rz (nuZ L (.ok k)) e' a' l' c'∧(0≤a'∧a'≤(L.length:Int))∧(0≤x∧x≤10000)∧(isZ (nuZ L (.ok k))=true→x=nuV L (.ok k))∧Sep w0 (box b [.slice a L.length c,.int .i64 a',.int .i64 l',.int .i64 c',.int .i64 e'] 66::aa tkE a c 91 4 L::L0) w'):=by
 refine Ret.st (N:=67) func59 fun R hR _=>J.r 7 [] [(10,.pointer (some ⟨b,0,none⟩))] [] ?_
 by_cases fk1:k<(L.length:Int)
 refine J.callF 11 53 #[.pointer (some ⟨b,0,none⟩)] hb53 kr (next_in b a c L k _ _ _ S0 om hL fk1) ?_
 rintro _ w1 ⟨rfl,S1⟩
 replace S1:Sep w0 (box b [.slice a L.length c,.int .i64 (k+1),.int .i64 0,.int .i64 0,.int .i64 0] 66::aa tkE a c 91 4 L::L0) w1:=S1
 refine J.nw 3 [] [(13,.bool true),(12,.agg #[.int .i64 ((L.getD (k).toNat tk0).az),.string ((L.getD (k).toNat tk0).ag),.int .i64 ((L.getD (k).toNat tk0).ae),.int .i64 ((L.getD (k).toNat tk0).ac)])] [] S1 3 [.int .i64 0,.string ByteArray.empty,.int .i64 0,.int .i64 0] 91 fun b1 w2 S2=>J.sb 0 [] [] [] S2 0 rfl [.int .i64 ((L.getD (k).toNat tk0).az),.string ((L.getD (k).toNat tk0).ag),.int .i64 ((L.getD (k).toNat tk0).ae),.int .i64 ((L.getD (k).toNat tk0).ac)] rfl fun w3 S3=>J.lb 13 [false] [] [] S3 0 rfl 17 (.string ((L.getD (k).toNat tk0).ag)) ?_
 obtain ⟨x,hx⟩:∃ x:ByteArray,x=(L.getD (k).toNat tk0).ag:=⟨_,rfl⟩
 refine J.head (.string x) (congrArg Value.string hx.symm) ?_
 have hx1:=htk (k).toNat om
 rw[← hx] at hx1
 have X1:∀ (f0:Bool) (w4:World),(f0=headN x)→Sep w0 (box b1 [.int .i64 ((L.getD (k).toNat tk0).az),.string ((L.getD (k).toNat tk0).ag),.int .i64 ((L.getD (k).toNat tk0).ae),.int .i64 ((L.getD (k).toNat tk0).ac)] 91::box b [.slice a L.length c,.int .i64 (k+1),.int .i64 0,.int .i64 0,.int .i64 0] 66::aa tkE a c 91 4 L::L0) w4→J prog 59 67 R K59_0 [(5,.string x),(3,.pointer (some ⟨b1,0,none⟩)),(0,.pointer (some ⟨b,0,none⟩)),(6,.bool f0)] w4:=by
  intro f0 w4 hf0 S4
  have L59_1:∀ (mm_:Nat) (f:Bool) (i:Int) (w5:World),(0≤i)→(i≤(x.size:Int))→(f=(headN x&&digsN x (i).toNat))→Sep w0 (box b1 [.int .i64 ((L.getD (k).toNat tk0).az),.string ((L.getD (k).toNat tk0).ag),.int .i64 ((L.getD (k).toNat tk0).ae),.int .i64 ((L.getD (k).toNat tk0).ac)] 91::box b [.slice a L.length c,.int .i64 (k+1),.int .i64 0,.int .i64 0,.int .i64 0] 66::aa tkE a c 91 4 L::L0) w5→((x.size:Int)-i).toNat=mm_→J prog 59 67 R K59_1 [(31,.int .i64 i),(30,.int .i64 (x.size:Int)),(5,.string x),(3,.pointer (some ⟨b1,0,none⟩)),(0,.pointer (some ⟨b,0,none⟩)),(6,.bool f)] w5:=by
   intro mm1
   induction mm1 using Nat.strongRecOn with
   | _ mm1 ih1 =>
   intro f i w5 h0 h1 hq S5 hm1
   refine J.c 5 [] [] [] 32 (i<(x.size:Int)) (fun fk2=>?_) fun fk2=>?_
   refine J.b 12 [true] [(7,.int .i64 i)] [] 35 f (fun fk3=>?_) fun fk3=>?_
   refine J.r 2 [] [(37,.int .i64 i),(36,.string x)] [] ?_
   have:=aS x (i).toNat
   refine J.ok (OK.byte 38 9 x i (aA x (i).toNat) kr kr om om (rfl))<|J.c 3 [] [] [] 41 ((aA x (i).toNat)≥48) (fun fk4=>?_) fun fk4=>?_
   refine J.r 2 [] [(43,.int .i64 i),(42,.string x)] [] ?_
   have:=aS x (i).toNat
   exact J.ok (OK.byte 44 9 x i (aA x (i).toNat) kr kr om om (rfl))<|J.wi 7 [] [(6,.bool (decide ((aA x (i).toNat)≤57)))] [] 47 (i+1)<|J.t 3 (ih1 _ (show((x.size:Int)-(i+1)).toNat<mm1 from by omega) (decide ((aA x (i).toNat)≤57)) (i+1) w5 om om (by rw[digsN_succ _ h0,← Bool.and_assoc,← hq,fk3,decide_eq_true (show 48≤aA x (i).toNat by omega),Bool.true_and,Bool.true_and]) S5 rfl)
   exact J.wi 10 [] [(6,.bool false)] [] 47 (i+1)<|J.t 3 (ih1 _ (show((x.size:Int)-(i+1)).toNat<mm1 from by omega) false (i+1) w5 om om (by rw[digsN_succ _ h0,← Bool.and_assoc,← hq,decide_eq_false (show ¬ 48≤aA x (i).toNat by omega),Bool.false_and,Bool.and_false]) S5 rfl)
   exact J.wi 16 [] [(6,.bool false)] [] 47 (i+1)<|J.t 3 (ih1 _ (show((x.size:Int)-(i+1)).toNat<mm1 from by omega) false (i+1) w5 om om (by rw[digsN_succ _ h0,← Bool.and_assoc,← hq,fk3];rfl) S5 rfl)
   have hform:bN (ls x)=f:=(canon_hd (s:=x) om).symm.trans (by rw[show x.size=i.toNat by omega];exact hq.symm)
   refine J.bn 8 [false] [] [] 49 f (fun fk5=>?_) fun fk5=>?_
   refine J.c 13 [false] [(8,.int .i64 1001)] [] 55 ((x.size:Int)≤4) (fun fk6=>?_) fun fk6=>?_
   refine J.r 3 [true] [(57,.string x)] [] ?_
   have fk7:(formL (ls x))=true:=(canon_form (hform.trans fk5)).2.1
   have fk8:(fitL (valL (ls x)))=true:=by obtain ⟨_,_,hv_⟩:=canon_form (hform.trans fk5);have hs_:=canon_small (hform.trans fk5) om;have hn_:(0:Int)≤(cx (ls x):Int):=Int.natCast_nonneg _;rw[hv_];unfold fitL;rw[decide_eq_true om,decide_eq_true om];rfl
   refine J.c0 0 [] [] [] S5 58 hb72 (atoi_ok x _ om fk7 fk8) fun w6 S6=>J.c 11 [] [(8,.int .i64 (valL (ls x)))] [] 62 ((valL (ls x))>1000) (fun fk9=>?_) fun fk9=>?_
   refine J.lb 3 [true] [(63,.pointer (some ⟨b,0,none⟩))] [] S6 0 rfl 64 (.agg #[.int .i64 ((L.getD (k).toNat tk0).az),.string ((L.getD (k).toNat tk0).ag),.int .i64 ((L.getD (k).toNat tk0).ae),.int .i64 ((L.getD (k).toNat tk0).ac)]) ?_
   have S7:Sep w0 (box b [.slice a L.length c,.int .i64 (k+1),.int .i64 0,.int .i64 0,.int .i64 0] 66::box b1 [.int .i64 ((L.getD (k).toNat tk0).az),.string ((L.getD (k).toNat tk0).ag),.int .i64 ((L.getD (k).toNat tk0).ae),.int .i64 ((L.getD (k).toNat tk0).ac)] 91::aa tkE a c 91 4 L::L0) w6:=S6.front 1 rfl
   refine J.callF 65 54 #[.pointer (some ⟨b,0,none⟩),.agg #[.int .i64 ((L.getD (k).toNat tk0).az),.string ((L.getD (k).toNat tk0).ag),.int .i64 ((L.getD (k).toNat tk0).ae),.int .i64 ((L.getD (k).toNat tk0).ac)],.int .i64 2] hb54 kr (bI b a L.length c (k+1) (L.getD (k).toNat tk0) 2 _ _ _ S7) ?_
   rintro _ w7 ⟨rfl,S8⟩
   replace S8:Sep w0 (box b [.slice a L.length c,.int .i64 (k+1),.int .i64 ((L.getD (k).toNat tk0).ae),.int .i64 ((L.getD (k).toNat tk0).ac),.int .i64 2] 66::box b1 [.int .i64 ((L.getD (k).toNat tk0).az),.string ((L.getD (k).toNat tk0).ag),.int .i64 ((L.getD (k).toNat tk0).ae),.int .i64 ((L.getD (k).toNat tk0).ac)] 91::aa tkE a c 91 4 L::L0) w7:=S8
   refine J.e 6 [.int .i64 (valL (ls x))] func59 (hR _ _ ?_)
   have hxk:tx L k=x:=hx.symm
   have hcn:bN (ls x)=true:=hform.trans fk5
   obtain ⟨_,_,hvl⟩:=canon_form hcn
   have hsm:=canon_small hcn om
   have hq_:=nu_rng fk1 (by rw[hxk];exact hcn) (by rw[hxk];omega)
   exact⟨_,_,_,_,_,rfl,aP hq_ (bp dE),⟨om,om⟩,⟨om,om⟩,(fun hi_=>by rw[hq_] at hi_;cases hi_),(S8.erase 1)⟩
   refine J.e 7 [.int .i64 (valL (ls x))] func59 (hR _ _ ?_)
   have hxk:tx L k=x:=hx.symm
   have hcn:bN (ls x)=true:=hform.trans fk5
   obtain ⟨_,_,hvl⟩:=canon_form hcn
   have hsm:=canon_small hcn om
   have hq_:=nu_in fk1 (by rw[hxk];exact hcn) (by rw[hxk];omega)
   exact⟨_,_,_,_,_,rfl,aP hq_ (bB),⟨om,om⟩,⟨om,om⟩,(fun hi_=>by show _=(cx (ls (tx L k)):Int);rw[hxk];exact hvl),(S6.erase 0)⟩
   refine J.lb 11 [false,true] [(63,.pointer (some ⟨b,0,none⟩))] [] S5 0 rfl 64 (.agg #[.int .i64 ((L.getD (k).toNat tk0).az),.string ((L.getD (k).toNat tk0).ag),.int .i64 ((L.getD (k).toNat tk0).ae),.int .i64 ((L.getD (k).toNat tk0).ac)]) ?_
   have S9:Sep w0 (box b [.slice a L.length c,.int .i64 (k+1),.int .i64 0,.int .i64 0,.int .i64 0] 66::box b1 [.int .i64 ((L.getD (k).toNat tk0).az),.string ((L.getD (k).toNat tk0).ag),.int .i64 ((L.getD (k).toNat tk0).ae),.int .i64 ((L.getD (k).toNat tk0).ac)] 91::aa tkE a c 91 4 L::L0) w5:=S5.front 1 rfl
   refine J.callF 65 54 #[.pointer (some ⟨b,0,none⟩),.agg #[.int .i64 ((L.getD (k).toNat tk0).az),.string ((L.getD (k).toNat tk0).ag),.int .i64 ((L.getD (k).toNat tk0).ae),.int .i64 ((L.getD (k).toNat tk0).ac)],.int .i64 2] hb54 kr (bI b a L.length c (k+1) (L.getD (k).toNat tk0) 2 _ _ _ S9) ?_
   rintro _ w8 ⟨rfl,S10⟩
   replace S10:Sep w0 (box b [.slice a L.length c,.int .i64 (k+1),.int .i64 ((L.getD (k).toNat tk0).ae),.int .i64 ((L.getD (k).toNat tk0).ac),.int .i64 2] 66::box b1 [.int .i64 ((L.getD (k).toNat tk0).az),.string ((L.getD (k).toNat tk0).ag),.int .i64 ((L.getD (k).toNat tk0).ae),.int .i64 ((L.getD (k).toNat tk0).ac)] 91::aa tkE a c 91 4 L::L0) w8:=S10
   refine J.e 6 [.int .i64 1001] func59 (hR _ _ ?_)
   have hxk:tx L k=x:=hx.symm
   have hcn:bN (ls x)=true:=hform.trans fk5
   obtain ⟨_,_,hvl⟩:=canon_form hcn
   have hbg:=canon_big hcn om
   have hq_:=nu_rng fk1 (by rw[hxk];exact hcn) (by rw[hxk];omega)
   exact⟨_,_,_,_,_,rfl,aP hq_ (bp dE),⟨om,om⟩,⟨om,om⟩,(fun hi_=>by rw[hq_] at hi_;cases hi_),(S10.erase 1)⟩
   refine J.lb 4 [true] [(50,.pointer (some ⟨b,0,none⟩))] [] S5 0 rfl 51 (.agg #[.int .i64 ((L.getD (k).toNat tk0).az),.string ((L.getD (k).toNat tk0).ag),.int .i64 ((L.getD (k).toNat tk0).ae),.int .i64 ((L.getD (k).toNat tk0).ac)]) ?_
   have S11:Sep w0 (box b [.slice a L.length c,.int .i64 (k+1),.int .i64 0,.int .i64 0,.int .i64 0] 66::box b1 [.int .i64 ((L.getD (k).toNat tk0).az),.string ((L.getD (k).toNat tk0).ag),.int .i64 ((L.getD (k).toNat tk0).ae),.int .i64 ((L.getD (k).toNat tk0).ac)] 91::aa tkE a c 91 4 L::L0) w5:=S5.front 1 rfl
   refine J.callF 52 54 #[.pointer (some ⟨b,0,none⟩),.agg #[.int .i64 ((L.getD (k).toNat tk0).az),.string ((L.getD (k).toNat tk0).ag),.int .i64 ((L.getD (k).toNat tk0).ae),.int .i64 ((L.getD (k).toNat tk0).ac)],.int .i64 3] hb54 kr (bI b a L.length c (k+1) (L.getD (k).toNat tk0) 3 _ _ _ S11) ?_
   rintro _ w9 ⟨rfl,S12⟩
   replace S12:Sep w0 (box b [.slice a L.length c,.int .i64 (k+1),.int .i64 ((L.getD (k).toNat tk0).ae),.int .i64 ((L.getD (k).toNat tk0).ac),.int .i64 3] 66::box b1 [.int .i64 ((L.getD (k).toNat tk0).az),.string ((L.getD (k).toNat tk0).ag),.int .i64 ((L.getD (k).toNat tk0).ae),.int .i64 ((L.getD (k).toNat tk0).ac)] 91::aa tkE a c 91 4 L::L0) w9:=S12
   refine J.e 5 [.int .i64 0] func59 (hR _ _ ?_)
   have hxk:tx L k=x:=hx.symm
   have hq_:=nu_form fk1 (by rw[hxk];exact hform.trans fk5)
   exact⟨_,_,_,_,_,rfl,aP hq_ (bp dE),⟨om,om⟩,⟨om,om⟩,(fun hi_=>by rw[hq_] at hi_;cases hi_),(S12.erase 1)⟩
  exact J.t 9 (L59_1 _ f0 0 w4 om om (hf0.trans (by rw[show digsN _ (0:Int).toNat=true from rfl,Bool.and_true])) S4 rfl)
 refine J.b 7 [] [(5,.string x)] [] 20 (!(x.toList==(⟨#[44]⟩:ByteArray).toList)) (fun fk10=>?_) fun fk10=>?_
 refine J.b 3 [] [] [] 23 (x.toList==(⟨#[48]⟩:ByteArray).toList) (fun fk11=>?_) fun fk11=>?_
 exact J.t 7 (X1 true w3 ((headN_yes (nbT fk10) fk11).symm) S3)
 refine J.r 1 [] [(24,.string x)] [] ?_
 have:=aS x 0
 exact J.ok (OK.byte 25 9 x (0:Int) (aA x 0) kr kr om om (rfl))<|J.t 5 (X1 ((aA x 0) != 48) w3 ((headN_last (nbT fk10) fk11).symm) S3)
 exact J.t 10 (X1 false w3 ((headN_no (nbF fk10)).symm) S3)
 refine J.callF 11 53 #[.pointer (some ⟨b,0,none⟩)] hb53 kr (next_end b a c L k _ _ _ S0 om hL fk1) ?_
 rintro _ w10 ⟨rfl,S13⟩
 replace S13:Sep w0 (box b [.slice a L.length c,.int .i64 k,.int .i64 (lnA L ((L.length:Int)-1)),.int .i64 (clA L ((L.length:Int)-1)),.int .i64 4] 66::aa tkE a c 91 4 L::L0) w10:=S13
 refine J.nw 3 [] [(13,.bool false),(12,.agg #[.int .i64 0,.string ByteArray.empty,.int .i64 0,.int .i64 0])] [] S13 3 [.int .i64 0,.string ByteArray.empty,.int .i64 0,.int .i64 0] 91 fun b2 w11 S14=>J.sb 0 [] [] [] S14 0 rfl [.int .i64 0,.string ByteArray.empty,.int .i64 0,.int .i64 0] rfl fun w12 S15=>J.e 13 [.int .i64 0] func59 (hR _ _ ?_)
 exact⟨_,_,_,_,_,rfl,aP (nu_end fk1) (rz_en rfl),⟨om,om⟩,⟨om,om⟩,(fun hi_=>by rw[nu_end fk1] at hi_;cases hi_),(S15.erase 0)⟩

theorem num_no (b:Nat) (a:Option Addr) (c:Nat) (L:List Tk) (k l cc e:Int) (w0:World) (L0:List Eng.Claim) (w:World) (S0:Sep w0 (box b [.slice a L.length c,.int .i64 k,.int .i64 l,.int .i64 cc,.int .i64 e] 66::aa tkE a c 91 4 L::L0) w) (hk:0≤k∧k≤(L.length:Int)) (he:e≠0):Ret prog 59 #[.pointer (some ⟨b,0,none⟩)] w (fun v w'=>∃ e' a' l' c' x,v=.int .i64 x∧Rz (.no e l cc) e' a' l' c'∧(0≤a'∧a'≤(L.length:Int))∧(0≤x∧x≤10000)∧(isZ (.no e l cc)=true→x=nuV L (.no e l cc))∧Sep w0 (box b [.slice a L.length c,.int .i64 a',.int .i64 l',.int .i64 c',.int .i64 e'] 66::aa tkE a c 91 4 L::L0) w'):=by
 refine Ret.st (N:=67) func59 fun R hR _=>J.r 7 [] [(10,.pointer (some ⟨b,0,none⟩))] []<|J.callF 11 53 #[.pointer (some ⟨b,0,none⟩)] hb53 kr (next_no b a c L k l cc e _ _ _ S0 (by first | assumption | decide | omega)) ?_
 rintro _ w1 ⟨rfl,S1⟩
 replace S1:Sep w0 (box b [.slice a L.length c,.int .i64 k,.int .i64 l,.int .i64 cc,.int .i64 e] 66::aa tkE a c 91 4 L::L0) w1:=S1
 refine J.nw 3 [] [(13,.bool false),(12,.agg #[.int .i64 0,.string ByteArray.empty,.int .i64 0,.int .i64 0])] [] S1 3 [.int .i64 0,.string ByteArray.empty,.int .i64 0,.int .i64 0] 91 fun b1 w2 S2=>J.sb 0 [] [] [] S2 0 rfl [.int .i64 0,.string ByteArray.empty,.int .i64 0,.int .i64 0] rfl fun w3 S3=>J.e 13 [.int .i64 0] func59 (hR _ _ ?_)
 exact⟨_,_,_,_,_,rfl,rz_no he,hk,⟨om,om⟩,(fun h_=>by cases h_),(S3.erase 0)⟩

theorem num_any (b:Nat) (a:Option Addr) (c:Nat) (L:List Tk) (X:Pz) (e k l cc:Int) (w0:World) (L0:List Eng.Claim) (w:World) (S0:Sep w0 (box b [.slice a L.length c,.int .i64 k,.int .i64 l,.int .i64 cc,.int .i64 e] 66::aa tkE a c 91 4 L::L0) w) (hz:Rz X e k l cc) (hk:0≤k∧k≤(L.length:Int)) (hL:1≤L.length∧L.length≤1000000) (htk:∀ j,j<L.length→1≤(L.getD j tk0).ag.size∧(L.getD j tk0).ag.size≤1000000):Ret prog 59 #[.pointer (some ⟨b,0,none⟩)] w (fun v w'=>∃ e' a' l' c' x,v=.int .i64 x∧Rz (nuZ L (X)) e' a' l' c'∧(0≤a'∧a'≤(L.length:Int))∧(0≤x∧x≤10000)∧(isZ (nuZ L (X))=true→x=nuV L (X))∧Sep w0 (box b [.slice a L.length c,.int .i64 a',.int .i64 l',.int .i64 c',.int .i64 e'] 66::aa tkE a c 91 4 L::L0) w'):=by
  cases X with
  | ok j=>obtain ⟨h1,h2,h3,h4⟩:=hz;subst h1 h2 h3 h4;exact num_ok b a c L k w0 L0 w S0 hk hL htk
  | no x y z=>obtain ⟨h1,h2,h3,h4⟩:=hz;subst h1 h3 h4;exact num_no b a c L k l cc e w0 L0 w S0 hk h2
end
end Go.Proofs.YtdneanhkcnfgdaaGreatDoor
