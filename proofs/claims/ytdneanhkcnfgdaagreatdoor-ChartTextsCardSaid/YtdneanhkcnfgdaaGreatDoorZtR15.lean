/- Walks of functions of this seat, printed by a program over the engine. Conditions: as each theorem says. -/
import Derived.Test.YtdneanhkcnfgdaaGreatDoorZtR14
set_option linter.unusedSimpArgs false
set_option linter.unusedVariables false
namespace Go.Proofs.YtdneanhkcnfgdaaGreatDoor
open Go.Eng Go.RowKit
set_option maxRecDepth 20000
set_option maxHeartbeats 20000000
def ntX (L:List Tk):Pz→ByteArray | .ok k=>if k<(L.length:Int) then tx L k else ByteArray.empty | _=>ByteArray.empty
section
variable {L:List Tk} {w:ByteArray} {X:Pz} {e a y z k most:Int} {out:List ByteArray}
theorem nt_in (h:k<(L.length:Int)):ntX L (.ok k)=tx L k:=if_pos h
theorem nt_end (h:¬ k<(L.length:Int)):ntX L (.ok k)=ByteArray.empty:=if_neg h
theorem empty_ne (hw:1≤w.size):(ByteArray.empty.toList==w.toList)=false:=by
  rw[beq_ls,beq_eq_false_iff_ne];intro e
  have:=bf w
  rw[← e] at this
  have h2:(ls ByteArray.empty).length=0:=rfl
  omega
theorem nt_mr (hw:1≤w.size):((ntX L X).toList==w.toList)=mrB L w X:=by
  cases X with
  | ok k =>
    by_cases h:k<(L.length:Int)
    · rw[nt_in h];show _=(decide _&&_);rw[decide_eq_true h,Bool.true_and];rfl
    · rw[nt_end h,mr_end h,empty_ne hw]
  | no x y z=>show(ByteArray.empty.toList==w.toList)=false;exact empty_ne hw
theorem nt_state (hz:Rz X e a y z) (h:((ntX L X).toList==w.toList)=true) (hw:1≤w.size):(X=.ok a∧a<(L.length:Int)∧mrB L w X=true)∧e=0∧y=0∧z=0:=by
  rw[nt_mr hw] at h
  cases X with
  | ok k=>obtain ⟨h1,h2,h3,h4⟩:=hz;subst h2;exact⟨⟨rfl,(bo h).1,h⟩,h1,h3,h4⟩
  | no x y z=>cases h
theorem nt_not (h:((ntX L X).toList==w.toList)=false) (hw:1≤w.size):mrB L w X=false:=by rw[← nt_mr hw];exact h
theorem ls_back (h:k<(L.length:Int)) (h2:aV (tx L k)=true) (h3:(out.length:Int)≠most) (h4:out.any (eqT (tx L k))=false) (h5:k+1<(L.length:Int)) (hz:Rz (wdZ L wComma (.ok (k+1))) e a y z) :
    (e=0→(y=0∧z=0∧a=k+1+1)∧lsF L most k out=lsF L most (k+1+1) (out++[tx L k]))∧(e≠0→Rz (lsF L most k out).1 e a y z):=by
  cases hm:mrB L wComma (.ok (k+1)) with
  | true =>
    rw[wd_hit h5 (bo hm).2] at hz
    exact⟨fun _=>⟨⟨hz.2.2.1,hz.2.2.2,hz.2.1⟩,ls_more h h2 h3 h4 hm⟩,fun he=>absurd hz.1 he⟩
  | false =>
    have hn:eqT (tx L (k+1)) wComma=false:=by
      have h':(decide (k+1<(L.length:Int))&&eqT (tx L (k+1)) wComma)=false:=hm
      rw[decide_eq_true h5,Bool.true_and] at h';exact h'
    rw[wd_miss h5 hn] at hz
    refine⟨fun he=>absurd (hz.1.symm.trans he) dE,fun _=>?_⟩
    rw[ls_last h h2 h3 h4 hm]
    show Rz (edZ L (.ok (k+1))) e a y z
    rw[ed_in h5];exact hz
theorem ls_at (h:k<(L.length:Int)) (h2:aV (tx L k)=true) (h3:(out.length:Int)≠most) (h4:out.any (eqT (tx L k))=false) (h5:¬ k+1<(L.length:Int)):lsF L most k out=(.ok (k+1),out++[tx L k]):=by
  rw[ls_last h h2 h3 h4 (mr_end h5),ed_not h5]
end
section
variable {L:List Tk} {w:ByteArray} {X:Pz} {k:Int}
theorem af_yes2 (hX:X=.ok k) (h:mrB L cD X=true):afZ L X=nuZ L (.ok (k+1)):=by subst hX;unfold afZ;rw[if_pos h];rfl
theorem av_yes2 (hX:X=.ok k) (h:mrB L cD X=true):afV L X=nuV L (.ok (k+1)):=by subst hX;unfold afV;rw[if_pos h];rfl
theorem af_no (h:mrB L cD X=false):afZ L X=X:=by unfold afZ;rw[if_neg (by rw[h];decide)]
theorem isZ_af2 (hX:X=.ok k) (h:mrB L cD X=true) (ha:isZ (afZ L X)=true):isZ (nuZ L (.ok (k+1)))=true:=by rw[← af_yes2 hX h];exact ha
end
theorem min_step {d:ByteArray} {n i:Int} (h0:0≤i) (hi:i<(d.size:Int)) (hm:n=min (cx ((ls d).take i.toNat):Int) 5000) (hb:48≤aA d i.toNat):min (10*n+(aA d i.toNat-48)) 5000=min (cx ((ls d).take (i+1).toNat):Int) 5000:=by
  have h1:=decV_take (d:=d) h0 hi
  have h2:=byteAt_ls d i.toNat
  rw[h1,hm];omega
theorem min_all {d:ByteArray} {n i:Int} (hm:n=min (cx ((ls d).take i.toNat):Int) 5000) (hi:(d.size:Int)≤i):n=min (cx (ls d):Int) 5000:=by
  have h1:=bf d
  rw[hm,List.take_of_length_le om]
theorem canon_yes {s:ByteArray} (h1:1≤s.size) (hq:∀ j,j<s.size→48≤aA s j∧aA s j≤57) (h:¬ (1<s.size∧aA s 0=48)):bN (ls s)=true:=by
  rw[canon_dig h1 hq]
  by_cases h0:aA s 0=48
  · rw[decide_eq_false (show ¬ 1<s.size from fun h2=>h ⟨h2,h0⟩),Bool.and_false];rfl
  · rw[decide_eq_false h0];rfl
theorem canon_lead {s:ByteArray} (hq:∀ j,j<s.size→48≤aA s j∧aA s j≤57) (h1:1<s.size) (h0:aA s 0=48):bN (ls s)=false:=by
  rw[canon_dig om hq,decide_eq_true h0,decide_eq_true h1];rfl

end Go.Proofs.YtdneanhkcnfgdaaGreatDoor

namespace Go.Proofs.YtdneanhkcnfgdaaGreatDoor
open Go.Eng Go.RowKit Go.Proofs.Tryz
set_option maxRecDepth 20000
set_option maxHeartbeats 20000000
theorem hb61:aJ prog 61:=fun _ _=>by kernel_rfl

theorem bv (b:Nat) (a:Option Addr) (c:Nat) (L:List Tk) (k:Int) (i x:Int) (w0:World) (L0:List Eng.Claim) (w:World) (S0:Sep w0 (box b [.slice a L.length c,.int .i64 k,.int .i64 0,.int .i64 0,.int .i64 0] 73::aa tkE a c 91 4 L::L0) w) (hi:0≤i∧i<(L.length:Int)) (hL:1≤L.length∧L.length≤1000000):Ret prog 61 #[.pointer (some ⟨b,0,none⟩),.int .i64 i,.int .i64 x] w (fun v w'=>v=.tuple #[]∧Sep w0 (box b [.slice a L.length c,.int .i64 k,.int .i64 (lnA L i),.int .i64 (clA L i),.int .i64 x] 73::aa tkE a c 91 4 L::L0) w'):=by
 refine Ret.st (N:=26) func61 fun R hR _=>J.lb 5 [] [] [] S0 0 rfl 9 (.int .i64 0)<|J.lb 9 [true] [(12,.pointer (some ⟨b,0,none⟩)),(11,.pointer (some ⟨b,0,none⟩))] [] S0 0 rfl 16 (.slice a L.length c)<|J.r 1 [] [(17,.int .i64 i)] [] ?_
 obtain ⟨p1,hp1,hc1⟩:=(aX (S0.nth 1 rfl) _ rfl (fun _=>rfl) dE).at tk0 (i).toNat om
 refine J.ok (OK.index 18 63 4 a p1 L.length (i).toNat i (p1.add ((i).toNat*4)) kr kr hp1 om om rfl)<|J.r 1 [] [(19,.pointer (some ((p1.add ((i).toNat*4)).add 2)))] []<|J.ok (OK.ldCells 20 32 ((p1.add ((i).toNat*4)).add 2) [.int .i64 ((L.getD (i).toNat tk0).ae),.int .i64 ((L.getD (i).toNat tk0).ac)] kr kr kr (fun j_ v_ hj_=>by rw[addr_add_add];exact(hc1) (2+j_) v_ (by rcases j_ with _ | _ | j_<;>first | exact hj_ | (cases hj_;done) | (simp at hj_;done))))<|J.sb 3 [] [(21,.int .i64 x)] [] S0 0 rfl [.slice a L.length c,.int .i64 k,.int .i64 ((L.getD (i).toNat tk0).ae),.int .i64 ((L.getD (i).toNat tk0).ac),.int .i64 0] rfl fun w1 S1=>J.sb 2 [] [] [] S1 0 rfl [.slice a L.length c,.int .i64 k,.int .i64 ((L.getD (i).toNat tk0).ae),.int .i64 ((L.getD (i).toNat tk0).ac),.int .i64 x] rfl fun w2 S2=>J.e 1 [] func61 (hR _ _ ?_)
 exact⟨rfl,S2⟩

theorem qfail_no (b:Nat) (a:Option Addr) (c:Nat) (L:List Tk) (k l cc e:Int) (i x:Int) (w0:World) (L0:List Eng.Claim) (w:World) (S0:Sep w0 (box b [.slice a L.length c,.int .i64 k,.int .i64 l,.int .i64 cc,.int .i64 e] 73::aa tkE a c 91 4 L::L0) w) (he:e≠0):Ret prog 61 #[.pointer (some ⟨b,0,none⟩),.int .i64 i,.int .i64 x] w (fun v w'=>v=.tuple #[]∧Sep w0 (box b [.slice a L.length c,.int .i64 k,.int .i64 l,.int .i64 cc,.int .i64 e] 73::aa tkE a c 91 4 L::L0) w'):=by
 refine Ret.st (N:=26) func61 fun R hR _=>J.lb 5 [] [] [] S0 0 rfl 9 (.int .i64 e) ?_
 have fk2:¬ (e=0):=he
 refine J.h 2 [] [] [] 10 (.bool (e==0)) (.bool false) (congrArg Value.bool (beq_eq_false_iff_ne.2 fk2))<|J.e 2 [] func61 (hR _ _ ?_)
 exact⟨rfl,S0⟩

theorem bR:aJ prog 32:=fun _ _=>by kernel_rfl

theorem cp (b:Nat) (a:Option Addr) (c:Nat) (L:List Tk) (k:Int) (w0:World) (L0:List Eng.Claim) (w:World) (S0:Sep w0 (box b [.slice a L.length c,.int .i64 k,.int .i64 0,.int .i64 0,.int .i64 0] 73::aa tkE a c 91 4 L::L0) w) (hk:0≤k∧k≤(L.length:Int)) (hL:1≤L.length∧L.length≤1000000) (h1:k<(L.length:Int)):Ret prog 32 #[.pointer (some ⟨b,0,none⟩)] w (fun v w'=>v=.string (L.getD (k).toNat tk0).ag∧Sep w0 (box b [.slice a L.length c,.int .i64 k,.int .i64 0,.int .i64 0,.int .i64 0] 73::aa tkE a c 91 4 L::L0) w'):=by
 refine Ret.st (N:=31) func32 fun R hR _=>J.r 6 [] [] []<|J.drawStill S0 17 Tryz.mixed kr kr kr ?_
 intro w1 S1
 refine SL.r 3 (.pointer (some ⟨b,0,none⟩))<|SL.r 4 (.pointer (some ⟨b,0,none⟩))<|SL.r 5 (.pointer (some ⟨b,4,none⟩))<|SL.lb S1 0 rfl 6 (.int .i64 0)<|SL.r 7 (.bool false)<|SL.r 8 (.bool false)<|SL.r 9 (.pointer (some ⟨b,0,none⟩))<|SL.r 10 (.pointer (some ⟨b,0,none⟩))<|SL.r 11 (.pointer (some ⟨b,1,none⟩))<|SL.lb S1 0 rfl 12 (.int .i64 k)<|SL.r 13 (.pointer (some ⟨b,0,none⟩)) ?_
 refine SL.r 14 (.pointer (some ⟨b,0,none⟩))<|SL.r 15 (.pointer (some ⟨b,0,none⟩))<|SL.lb S1 0 rfl 16 (.slice a L.length c)<|SL.r 17 (.int .i64 (L.length:Int))<|SL.r 18 (.bool (decide (k≥(L.length:Int))))<|SL.r 19 (.bool (decide (k≥(L.length:Int))))<|SL.done<|TL.done kr ?_
 have fk2:¬ (k≥(L.length:Int)):=by omega
 refine J.h 0 [] [] [] 19 (.bool (decide (k≥(L.length:Int)))) (.bool false) (congrArg Value.bool (decide_eq_false fk2))<|J.r 3 [false] [] [] ?_
 obtain ⟨p1,hp1,hc1⟩:=(aX (S1.nth 1 rfl) _ rfl (fun _=>rfl) dE).at tk0 (k).toNat om
 refine J.drawStill S1 12 Tryz.mixed kr kr kr ?_
 intro w2 S2
 refine SL.r 20 (.pointer (some ⟨b,0,none⟩))<|SL.r 21 (.pointer (some ⟨b,0,none⟩))<|SL.r 22 (.pointer (some ⟨b,0,none⟩))<|SL.lb S2 0 rfl 23 (.slice a L.length c)<|SL.r 24 (.pointer (some ⟨b,0,none⟩))<|SL.r 25 (.pointer (some ⟨b,0,none⟩))<|SL.r 26 (.pointer (some ⟨b,1,none⟩))<|SL.lb S2 0 rfl 27 (.int .i64 k) ?_
 obtain ⟨p2,hp2,hc2⟩:=(aX (S2.nth 1 rfl) _ rfl (fun _=>rfl) dE).at tk0 (k).toNat om
 refine SL.ok dE (OK.index 28 63 4 a p2 L.length (k).toNat k (p2.add ((k).toNat*4)) kr kr hp2 om om rfl)<|SL.r 29 (.pointer (some ((p2.add ((k).toNat*4)).add 1)))<|SL.ok dE (OK.ldCell 30 9 ((p2.add ((k).toNat*4)).add 1) (.string ((L.getD (k).toNat tk0).ag)) kr kr (hc2 1 _ rfl))<|SL.r 2 (.string ((L.getD (k).toNat tk0).ag))<|SL.done<|TL.done kr<|J.e 0 [.string ((L.getD (k).toNat tk0).ag)] func32 (hR _ _ ?_)
 exact⟨rfl,S2⟩

theorem ct (b:Nat) (a:Option Addr) (c:Nat) (L:List Tk) (k:Int) (w0:World) (L0:List Eng.Claim) (w:World) (S0:Sep w0 (box b [.slice a L.length c,.int .i64 k,.int .i64 0,.int .i64 0,.int .i64 0] 73::aa tkE a c 91 4 L::L0) w) (hk:0≤k∧k≤(L.length:Int)) (hL:1≤L.length∧L.length≤1000000) (h1:¬ k<(L.length:Int)):Ret prog 32 #[.pointer (some ⟨b,0,none⟩)] w (fun v w'=>v=.string ByteArray.empty∧Sep w0 (box b [.slice a L.length c,.int .i64 k,.int .i64 0,.int .i64 0,.int .i64 0] 73::aa tkE a c 91 4 L::L0) w'):=by
 refine Ret.st (N:=31) func32 fun R hR _=>J.r 6 [] [] []<|J.drawStill S0 17 Tryz.mixed kr kr kr ?_
 intro w1 S1
 refine SL.r 3 (.pointer (some ⟨b,0,none⟩))<|SL.r 4 (.pointer (some ⟨b,0,none⟩))<|SL.r 5 (.pointer (some ⟨b,4,none⟩))<|SL.lb S1 0 rfl 6 (.int .i64 0)<|SL.r 7 (.bool false)<|SL.r 8 (.bool false)<|SL.r 9 (.pointer (some ⟨b,0,none⟩))<|SL.r 10 (.pointer (some ⟨b,0,none⟩))<|SL.r 11 (.pointer (some ⟨b,1,none⟩))<|SL.lb S1 0 rfl 12 (.int .i64 k)<|SL.r 13 (.pointer (some ⟨b,0,none⟩)) ?_
 refine SL.r 14 (.pointer (some ⟨b,0,none⟩))<|SL.r 15 (.pointer (some ⟨b,0,none⟩))<|SL.lb S1 0 rfl 16 (.slice a L.length c)<|SL.r 17 (.int .i64 (L.length:Int))<|SL.r 18 (.bool (decide (k≥(L.length:Int))))<|SL.r 19 (.bool (decide (k≥(L.length:Int))))<|SL.done<|TL.done kr ?_
 have fk2:k≥(L.length:Int):=by omega
 refine J.h 0 [] [] [] 19 (.bool (decide (k≥(L.length:Int)))) (.bool true) (congrArg Value.bool (decide_eq_true fk2))<|J.e 5 [.string ByteArray.empty] func32 (hR _ _ ?_)
 exact⟨rfl,S1⟩

theorem bt (b:Nat) (a:Option Addr) (c:Nat) (L:List Tk) (k l cc e:Int) (w0:World) (L0:List Eng.Claim) (w:World) (S0:Sep w0 (box b [.slice a L.length c,.int .i64 k,.int .i64 l,.int .i64 cc,.int .i64 e] 73::aa tkE a c 91 4 L::L0) w) (he:e≠0):Ret prog 32 #[.pointer (some ⟨b,0,none⟩)] w (fun v w'=>v=.string ByteArray.empty∧Sep w0 (box b [.slice a L.length c,.int .i64 k,.int .i64 l,.int .i64 cc,.int .i64 e] 73::aa tkE a c 91 4 L::L0) w'):=by
 refine Ret.st (N:=31) func32 fun R hR _=>J.r 6 [] [] [] ?_
 have fk1:¬ (e=0):=he
 refine J.drawStill S0 17 Tryz.mixed kr kr kr ?_
 intro w1 S1
 refine SL.r 3 (.pointer (some ⟨b,0,none⟩))<|SL.r 4 (.pointer (some ⟨b,0,none⟩))<|SL.r 5 (.pointer (some ⟨b,4,none⟩))<|SL.lb S1 0 rfl 6 (.int .i64 e)<|SL.r 7 (.bool (e != 0))<|SL.head (.bool true) (congrArg Value.bool (bne_iff_ne.2 fk1))<|SL.r 8 (.bool true)<|SL.p (some 9)<|SL.p (some 10)<|SL.p (some 11)<|SL.p (some 12) ?_
 refine SL.p (some 13)<|SL.p (some 14)<|SL.p (some 15)<|SL.p (some 16)<|SL.p (some 17)<|SL.p (some 18)<|SL.r 19 (.bool true)<|SL.done<|TL.done kr<|J.e 5 [.string ByteArray.empty] func32 (hR _ _ ?_)
 exact⟨rfl,S1⟩

theorem qnext_any (b:Nat) (a:Option Addr) (c:Nat) (L:List Tk) (X:Pz) (e k l cc:Int) (w0:World) (L0:List Eng.Claim) (w:World) (S0:Sep w0 (box b [.slice a L.length c,.int .i64 k,.int .i64 l,.int .i64 cc,.int .i64 e] 73::aa tkE a c 91 4 L::L0) w) (hz:Rz X e k l cc) (hk:0≤k∧k≤(L.length:Int)) (hL:1≤L.length∧L.length≤1000000):Ret prog 32 #[.pointer (some ⟨b,0,none⟩)] w (fun v w'=>v=.string (ntX L X)∧Sep w0 (box b [.slice a L.length c,.int .i64 k,.int .i64 l,.int .i64 cc,.int .i64 e] 73::aa tkE a c 91 4 L::L0) w'):=by
  cases X with
  | ok j =>
    obtain ⟨h1,h2,h3,h4⟩:=hz;subst h1 h2 h3 h4
    by_cases h:k<(L.length:Int)
    · rw[nt_in h];exact cp b a c L k w0 L0 w S0 hk hL h
    · rw[nt_end h];exact ct b a c L k w0 L0 w S0 hk hL h
  | no x y z=>obtain ⟨h1,h2,h3,h4⟩:=hz;subst h1 h3 h4;exact bt b a c L k l cc e w0 L0 w S0 h2
theorem hb33:aJ prog 33:=fun _ _=>by kernel_rfl

theorem bJ (b:Nat) (a:Option Addr) (c:Nat) (L:List Tk) (k:Int) (w0:World) (L0:List Eng.Claim) (w:World) (S0:Sep w0 (box b [.slice a L.length c,.int .i64 k,.int .i64 0,.int .i64 0,.int .i64 0] 73::aa tkE a c 91 4 L::L0) w) (hk:0≤k∧k≤(L.length:Int)) (hL:1≤L.length∧L.length≤1000000) (h1:k<(L.length:Int)):Ret prog 33 #[.pointer (some ⟨b,0,none⟩)] w (fun v w'=>v=.string (L.getD (k).toNat tk0).ag∧Sep w0 (box b [.slice a L.length c,.int .i64 (k+1),.int .i64 0,.int .i64 0,.int .i64 0] 73::aa tkE a c 91 4 L::L0) w'):=by
 refine Ret.st (N:=45) func33 fun R hR _=>J.lb 10 [] [] [] S0 0 rfl 6 (.int .i64 0)<|J.r 6 [false] [] []<|J.drawStill S0 10 Tryz.mixed kr kr kr ?_
 intro w1 S1
 refine SL.r 8 (.pointer (some ⟨b,0,none⟩))<|SL.r 9 (.pointer (some ⟨b,0,none⟩))<|SL.r 10 (.pointer (some ⟨b,1,none⟩))<|SL.lb S1 0 rfl 11 (.int .i64 k)<|SL.r 12 (.pointer (some ⟨b,0,none⟩))<|SL.r 13 (.pointer (some ⟨b,0,none⟩))<|SL.r 14 (.pointer (some ⟨b,0,none⟩))<|SL.lb S1 0 rfl 15 (.slice a L.length c)<|SL.r 16 (.int .i64 (L.length:Int))<|SL.r 17 (.bool (decide (k≥(L.length:Int))))<|SL.done ?_
 refine TL.done kr ?_
 have fk2:¬ (k≥(L.length:Int)):=by omega
 refine J.h 0 [] [] [] 17 (.bool (decide (k≥(L.length:Int)))) (.bool false) (congrArg Value.bool (decide_eq_false fk2))<|J.lb 7 [false] [(26,.pointer (some ⟨b,0,none⟩))] [] S1 0 rfl 29 (.int .i64 k)<|J.wi 1 [] [] [] 30 (k+1)<|J.sb 2 [] [] [] S1 0 rfl [.slice a L.length c,.int .i64 (k+1),.int .i64 0,.int .i64 0,.int .i64 0] rfl fun w2 S2=>J.r 2 [] [] [] ?_
 obtain ⟨p1,hp1,hc1⟩:=(aX (S2.nth 1 rfl) _ rfl (fun _=>rfl) dE).at tk0 ((k+1)-1).toNat om
 refine J.drawStill S2 13 Tryz.mixed kr kr kr ?_
 intro w3 S3
 refine SL.r 33 (.pointer (some ⟨b,0,none⟩))<|SL.r 34 (.pointer (some ⟨b,0,none⟩))<|SL.r 35 (.pointer (some ⟨b,0,none⟩))<|SL.lb S3 0 rfl 36 (.slice a L.length c)<|SL.r 37 (.pointer (some ⟨b,0,none⟩))<|SL.r 38 (.pointer (some ⟨b,0,none⟩))<|SL.r 39 (.pointer (some ⟨b,1,none⟩))<|SL.lb S3 0 rfl 40 (.int .i64 (k+1))<|SL.r 41 (.int .i64 (IntKind.wrap .i64 ((k+1)-1)))<|SL.head (.int .i64 ((k+1)-1)) (congrArg (Value.int .i64) (IntWalk.i64_in _ om)) ?_
 obtain ⟨p2,hp2,hc2⟩:=(aX (S3.nth 1 rfl) _ rfl (fun _=>rfl) dE).at tk0 ((k+1)-1).toNat om
 refine SL.ok dE (OK.index 42 63 4 a p2 L.length ((k+1)-1).toNat ((k+1)-1) (p2.add (((k+1)-1).toNat*4)) kr kr hp2 om om rfl)<|SL.r 43 (.pointer (some ((p2.add (((k+1)-1).toNat*4)).add 1)))<|SL.ok dE (OK.ldCell 44 9 ((p2.add (((k+1)-1).toNat*4)).add 1) (.string ((L.getD ((k+1)-1).toNat tk0).ag)) kr kr (hc2 1 _ rfl))<|SL.r 2 (.string ((L.getD ((k+1)-1).toNat tk0).ag))<|SL.done<|TL.done kr<|J.e 0 [.string ((L.getD ((k+1)-1).toNat tk0).ag)] func33 (hR _ _ ?_)
 exact⟨by rw[show(k+1-1).toNat=(k).toNat by omega];rfl,S3⟩

theorem qtake_end (b:Nat) (a:Option Addr) (c:Nat) (L:List Tk) (k:Int) (w0:World) (L0:List Eng.Claim) (w:World) (S0:Sep w0 (box b [.slice a L.length c,.int .i64 k,.int .i64 0,.int .i64 0,.int .i64 0] 73::aa tkE a c 91 4 L::L0) w) (hk:0≤k∧k≤(L.length:Int)) (hL:1≤L.length∧L.length≤1000000) (h1:¬ k<(L.length:Int)):Ret prog 33 #[.pointer (some ⟨b,0,none⟩)] w (fun v w'=>v=.string ByteArray.empty∧Sep w0 (box b [.slice a L.length c,.int .i64 k,.int .i64 (lnA L ((L.length:Int)-1)),.int .i64 (clA L ((L.length:Int)-1)),.int .i64 4] 73::aa tkE a c 91 4 L::L0) w'):=by
 refine Ret.st (N:=45) func33 fun R hR _=>J.lb 10 [] [] [] S0 0 rfl 6 (.int .i64 0)<|J.r 6 [false] [] []<|J.drawStill S0 10 Tryz.mixed kr kr kr ?_
 intro w1 S1
 refine SL.r 8 (.pointer (some ⟨b,0,none⟩))<|SL.r 9 (.pointer (some ⟨b,0,none⟩))<|SL.r 10 (.pointer (some ⟨b,1,none⟩))<|SL.lb S1 0 rfl 11 (.int .i64 k)<|SL.r 12 (.pointer (some ⟨b,0,none⟩))<|SL.r 13 (.pointer (some ⟨b,0,none⟩))<|SL.r 14 (.pointer (some ⟨b,0,none⟩))<|SL.lb S1 0 rfl 15 (.slice a L.length c)<|SL.r 16 (.int .i64 (L.length:Int))<|SL.r 17 (.bool (decide (k≥(L.length:Int))))<|SL.done ?_
 refine TL.done kr ?_
 have fk2:k≥(L.length:Int):=by omega
 refine J.h 0 [] [] [] 17 (.bool (decide (k≥(L.length:Int)))) (.bool true) (congrArg Value.bool (decide_eq_true fk2))<|J.lb 7 [true] [(18,.pointer (some ⟨b,0,none⟩))] [] S1 0 rfl 22 (.slice a L.length c)<|J.wi 2 [] [] [] 24 ((L.length:Int)-1)<|J.callF 25 61 #[.pointer (some ⟨b,0,none⟩),.int .i64 ((L.length:Int)-1),.int .i64 4] hb61 kr (bv b a c L k ((L.length:Int)-1) 4 _ _ _ S1 om hL) ?_
 rintro _ w2 ⟨rfl,S2⟩
 replace S2:Sep w0 (box b [.slice a L.length c,.int .i64 k,.int .i64 (lnA L ((L.length:Int)-1)),.int .i64 (clA L ((L.length:Int)-1)),.int .i64 4] 73::aa tkE a c 91 4 L::L0) w2:=S2
 refine J.e 5 [.string ByteArray.empty] func33 (hR _ _ ?_)
 exact⟨rfl,S2⟩

theorem qtake_no (b:Nat) (a:Option Addr) (c:Nat) (L:List Tk) (k l cc e:Int) (w0:World) (L0:List Eng.Claim) (w:World) (S0:Sep w0 (box b [.slice a L.length c,.int .i64 k,.int .i64 l,.int .i64 cc,.int .i64 e] 73::aa tkE a c 91 4 L::L0) w) (he:e≠0):Ret prog 33 #[.pointer (some ⟨b,0,none⟩)] w (fun v w'=>v=.string ByteArray.empty∧Sep w0 (box b [.slice a L.length c,.int .i64 k,.int .i64 l,.int .i64 cc,.int .i64 e] 73::aa tkE a c 91 4 L::L0) w'):=by
 refine Ret.st (N:=45) func33 fun R hR _=>J.lb 10 [] [] [] S0 0 rfl 6 (.int .i64 e) ?_
 have fk2:¬ (e=0):=he
 refine J.h 2 [] [] [] 7 (.bool (e != 0)) (.bool true) (congrArg Value.bool (bne_iff_ne.2 fk2))<|J.e 5 [.string ByteArray.empty] func33 (hR _ _ ?_)
 exact⟨rfl,S0⟩

theorem hb62:aJ prog 62:=fun _ _=>by kernel_rfl

theorem qname_in (b:Nat) (a:Option Addr) (c:Nat) (L:List Tk) (k:Int) (w0:World) (L0:List Eng.Claim) (w:World) (S0:Sep w0 (box b [.slice a L.length c,.int .i64 k,.int .i64 0,.int .i64 0,.int .i64 0] 73::aa tkE a c 91 4 L::L0) w) (hk:0≤k∧k≤(L.length:Int)) (hL:1≤L.length∧L.length≤1000000) (htk:∀ j,j<L.length→1≤(L.getD j tk0).ag.size∧(L.getD j tk0).ag.size≤1000000) (h1:k<(L.length:Int)) (h2:aV (L.getD (k).toNat tk0).ag=true):Ret prog 62 #[.pointer (some ⟨b,0,none⟩)] w (fun v w'=>v=.string (L.getD (k).toNat tk0).ag∧Sep w0 (box b [.slice a L.length c,.int .i64 (k+1),.int .i64 0,.int .i64 0,.int .i64 0] 73::aa tkE a c 91 4 L::L0) w'):=by
 refine Ret.st (N:=24) func62 fun R hR _=>?_
 have htk2:=htk (k).toNat om
 refine J.r 7 [] [(4,.pointer (some ⟨b,0,none⟩))] [] ?_
 have fk1:k<(L.length:Int):=h1
 refine J.callF 5 33 #[.pointer (some ⟨b,0,none⟩)] hb33 kr (bJ b a c L k _ _ _ S0 om hL fk1) ?_
 rintro _ w1 ⟨rfl,S1⟩
 replace S1:Sep w0 (box b [.slice a L.length c,.int .i64 (k+1),.int .i64 0,.int .i64 0,.int .i64 0] 73::aa tkE a c 91 4 L::L0) w1:=S1
 refine J.lb 8 [] [(3,.string ((L.getD (k).toNat tk0).ag))] [] S1 0 rfl 9 (.int .i64 0)<|J.c0 3 [] [(11,.bool true)] [] S1 13 hb64 (rname_any ((L.getD (k).toNat tk0).ag) _ (by first | omega | decide)) fun w2 S2=>?_
 have fk3:(aV ((L.getD (k).toNat tk0).ag))=true:=h2
 refine J.h 3 [] [] [] 15 (.bool (!(aV ((L.getD (k).toNat tk0).ag)))) (.bool false) (congrArg Value.bool (by rw[fk3];rfl))<|J.e 7 [.string ((L.getD (k).toNat tk0).ag)] func62 (hR _ _ ?_)
 exact⟨rfl,S2⟩

theorem qname_miss (b:Nat) (a:Option Addr) (c:Nat) (L:List Tk) (k:Int) (w0:World) (L0:List Eng.Claim) (w:World) (S0:Sep w0 (box b [.slice a L.length c,.int .i64 k,.int .i64 0,.int .i64 0,.int .i64 0] 73::aa tkE a c 91 4 L::L0) w) (hk:0≤k∧k≤(L.length:Int)) (hL:1≤L.length∧L.length≤1000000) (htk:∀ j,j<L.length→1≤(L.getD j tk0).ag.size∧(L.getD j tk0).ag.size≤1000000) (h1:k<(L.length:Int)) (h2:aV (L.getD (k).toNat tk0).ag=false):Ret prog 62 #[.pointer (some ⟨b,0,none⟩)] w (fun v w'=>v=.string (L.getD (k).toNat tk0).ag∧Sep w0 (box b [.slice a L.length c,.int .i64 (k+1),.int .i64 (lnA L k),.int .i64 (clA L k),.int .i64 3] 73::aa tkE a c 91 4 L::L0) w'):=by
 refine Ret.st (N:=24) func62 fun R hR _=>?_
 have htk2:=htk (k).toNat om
 refine J.r 7 [] [(4,.pointer (some ⟨b,0,none⟩))] [] ?_
 have fk1:k<(L.length:Int):=h1
 refine J.callF 5 33 #[.pointer (some ⟨b,0,none⟩)] hb33 kr (bJ b a c L k _ _ _ S0 om hL fk1) ?_
 rintro _ w1 ⟨rfl,S1⟩
 replace S1:Sep w0 (box b [.slice a L.length c,.int .i64 (k+1),.int .i64 0,.int .i64 0,.int .i64 0] 73::aa tkE a c 91 4 L::L0) w1:=S1
 refine J.lb 8 [] [(3,.string ((L.getD (k).toNat tk0).ag))] [] S1 0 rfl 9 (.int .i64 0)<|J.c0 3 [] [(11,.bool true)] [] S1 13 hb64 (rname_any ((L.getD (k).toNat tk0).ag) _ (by first | omega | decide)) fun w2 S2=>?_
 have fk3:(aV ((L.getD (k).toNat tk0).ag))=false:=h2
 refine J.h 3 [] [] [] 15 (.bool (!(aV ((L.getD (k).toNat tk0).ag)))) (.bool true) (congrArg Value.bool (by rw[fk3];rfl))<|J.lb 6 [true] [(16,.pointer (some ⟨b,0,none⟩))] [] S2 0 rfl 20 (.int .i64 (k+1))<|J.wi 1 [] [] [] 21 ((k+1)-1)<|J.callF 22 61 #[.pointer (some ⟨b,0,none⟩),.int .i64 ((k+1)-1),.int .i64 3] hb61 kr (bv b a c L (k+1) ((k+1)-1) 3 _ _ _ S2 om hL) ?_
 rintro _ w3 ⟨rfl,S3⟩
 replace S3:Sep w0 (box b [.slice a L.length c,.int .i64 (k+1),.int .i64 (lnA L ((k+1)-1)),.int .i64 (clA L ((k+1)-1)),.int .i64 3] 73::aa tkE a c 91 4 L::L0) w3:=S3
 rw[show(k+1)-1=k by omega] at S3
 refine J.e 6 [.string ((L.getD (k).toNat tk0).ag)] func62 (hR _ _ ?_)
 exact⟨rfl,S3⟩

theorem qname_end (b:Nat) (a:Option Addr) (c:Nat) (L:List Tk) (k:Int) (w0:World) (L0:List Eng.Claim) (w:World) (S0:Sep w0 (box b [.slice a L.length c,.int .i64 k,.int .i64 0,.int .i64 0,.int .i64 0] 73::aa tkE a c 91 4 L::L0) w) (hk:0≤k∧k≤(L.length:Int)) (hL:1≤L.length∧L.length≤1000000) (h1:¬ k<(L.length:Int)):Ret prog 62 #[.pointer (some ⟨b,0,none⟩)] w (fun v w'=>v=.string ByteArray.empty∧Sep w0 (box b [.slice a L.length c,.int .i64 k,.int .i64 (lnA L ((L.length:Int)-1)),.int .i64 (clA L ((L.length:Int)-1)),.int .i64 4] 73::aa tkE a c 91 4 L::L0) w'):=by
 refine Ret.st (N:=24) func62 fun R hR _=>J.r 7 [] [(4,.pointer (some ⟨b,0,none⟩))] [] ?_
 have fk1:¬ (k<(L.length:Int)):=h1
 refine J.callF 5 33 #[.pointer (some ⟨b,0,none⟩)] hb33 kr (qtake_end b a c L k _ _ _ S0 om hL fk1) ?_
 rintro _ w1 ⟨rfl,S1⟩
 replace S1:Sep w0 (box b [.slice a L.length c,.int .i64 k,.int .i64 (lnA L ((L.length:Int)-1)),.int .i64 (clA L ((L.length:Int)-1)),.int .i64 4] 73::aa tkE a c 91 4 L::L0) w1:=S1
 refine J.lb 8 [] [(3,.string ByteArray.empty)] [] S1 0 rfl 9 (.int .i64 4)<|J.e 14 [.string ByteArray.empty] func62 (hR _ _ ?_)
 exact⟨rfl,S1⟩

theorem qname_no (b:Nat) (a:Option Addr) (c:Nat) (L:List Tk) (k l cc e:Int) (w0:World) (L0:List Eng.Claim) (w:World) (S0:Sep w0 (box b [.slice a L.length c,.int .i64 k,.int .i64 l,.int .i64 cc,.int .i64 e] 73::aa tkE a c 91 4 L::L0) w) (he:e≠0):Ret prog 62 #[.pointer (some ⟨b,0,none⟩)] w (fun v w'=>v=.string ByteArray.empty∧Sep w0 (box b [.slice a L.length c,.int .i64 k,.int .i64 l,.int .i64 cc,.int .i64 e] 73::aa tkE a c 91 4 L::L0) w'):=by
 refine Ret.st (N:=24) func62 fun R hR _=>J.r 7 [] [(4,.pointer (some ⟨b,0,none⟩))] []<|J.callF 5 33 #[.pointer (some ⟨b,0,none⟩)] hb33 kr (qtake_no b a c L k l cc e _ _ _ S0 (by first | assumption | decide | omega)) ?_
 rintro _ w1 ⟨rfl,S1⟩
 replace S1:Sep w0 (box b [.slice a L.length c,.int .i64 k,.int .i64 l,.int .i64 cc,.int .i64 e] 73::aa tkE a c 91 4 L::L0) w1:=S1
 refine J.lb 8 [] [(3,.string ByteArray.empty)] [] S1 0 rfl 9 (.int .i64 e) ?_
 have fk2:¬ (e=0):=he
 refine J.h 2 [] [] [] 11 (.bool (e==0)) (.bool false) (congrArg Value.bool (beq_eq_false_iff_ne.2 fk2))<|J.e 12 [.string ByteArray.empty] func62 (hR _ _ ?_)
 exact⟨rfl,S1⟩
theorem hb30:aJ prog 30:=fun _ _=>by kernel_rfl

theorem qword_ok (b:Nat) (a:Option Addr) (c:Nat) (L:List Tk) (k:Int) (s:ByteArray) (w0:World) (L0:List Eng.Claim) (w:World) (S0:Sep w0 (box b [.slice a L.length c,.int .i64 k,.int .i64 0,.int .i64 0,.int .i64 0] 73::aa tkE a c 91 4 L::L0) w) (hk:0≤k∧k≤(L.length:Int)) (hL:1≤L.length∧L.length≤1000000):Ret prog 30 #[.pointer (some ⟨b,0,none⟩),.string s] w (fun v w'=>∃ e' a' l' c',v=.tuple #[]∧Rz (wdZ L s (.ok k)) e' a' l' c'∧(0≤a'∧a'≤(L.length:Int))∧Sep w0 (box b [.slice a L.length c,.int .i64 a',.int .i64 l',.int .i64 c',.int .i64 e'] 73::aa tkE a c 91 4 L::L0) w'):=by
 refine Ret.st (N:=24) func30 fun R hR _=>J.r 3 [] [(5,.pointer (some ⟨b,0,none⟩))] [] ?_
 by_cases fk1:k<(L.length:Int)
 refine J.callF 6 33 #[.pointer (some ⟨b,0,none⟩)] hb33 kr (bJ b a c L k _ _ _ S0 om hL fk1) ?_
 rintro _ w1 ⟨rfl,S1⟩
 replace S1:Sep w0 (box b [.slice a L.length c,.int .i64 (k+1),.int .i64 0,.int .i64 0,.int .i64 0] 73::aa tkE a c 91 4 L::L0) w1:=S1
 refine J.lb 7 [] [(4,.string ((L.getD (k).toNat tk0).ag))] [] S1 0 rfl 10 (.int .i64 0)<|J.b 7 [] [] [] 16 (!(((L.getD (k).toNat tk0).ag).toList==s.toList)) (fun fk2=>?_) fun fk2=>?_
 refine J.lb 6 [true] [(17,.pointer (some ⟨b,0,none⟩))] [] S1 0 rfl 21 (.int .i64 (k+1))<|J.wi 1 [] [] [] 22 ((k+1)-1)<|J.callF 23 61 #[.pointer (some ⟨b,0,none⟩),.int .i64 ((k+1)-1),.int .i64 3] hb61 kr (bv b a c L (k+1) ((k+1)-1) 3 _ _ _ S1 om hL) ?_
 rintro _ w2 ⟨rfl,S2⟩
 replace S2:Sep w0 (box b [.slice a L.length c,.int .i64 (k+1),.int .i64 (lnA L ((k+1)-1)),.int .i64 (clA L ((k+1)-1)),.int .i64 3] 73::aa tkE a c 91 4 L::L0) w2:=S2
 rw[show(k+1)-1=k by omega] at S2
 refine J.e 1 [] func30 (hR _ _ ?_)
 exact⟨_,_,_,_,rfl,aP (wd_miss fk1 (nbT fk2)) (bp dE),⟨om,om⟩,S2⟩
 refine J.e 2 [] func30 (hR _ _ ?_)
 exact⟨_,_,_,_,rfl,aP (wd_hit fk1 (nbF fk2)) bB,⟨om,om⟩,S1⟩
 refine J.callF 6 33 #[.pointer (some ⟨b,0,none⟩)] hb33 kr (qtake_end b a c L k _ _ _ S0 om hL fk1) ?_
 rintro _ w3 ⟨rfl,S3⟩
 replace S3:Sep w0 (box b [.slice a L.length c,.int .i64 k,.int .i64 (lnA L ((L.length:Int)-1)),.int .i64 (clA L ((L.length:Int)-1)),.int .i64 4] 73::aa tkE a c 91 4 L::L0) w3:=S3
 refine J.lb 7 [] [(4,.string ByteArray.empty)] [] S3 0 rfl 10 (.int .i64 4)<|J.e 9 [] func30 (hR _ _ ?_)
 exact⟨_,_,_,_,rfl,aP (wd_end fk1) (rz_en rfl),⟨om,om⟩,S3⟩

theorem qword_no (b:Nat) (a:Option Addr) (c:Nat) (L:List Tk) (k l cc e:Int) (s:ByteArray) (w0:World) (L0:List Eng.Claim) (w:World) (S0:Sep w0 (box b [.slice a L.length c,.int .i64 k,.int .i64 l,.int .i64 cc,.int .i64 e] 73::aa tkE a c 91 4 L::L0) w) (hk:0≤k∧k≤(L.length:Int)) (he:e≠0):Ret prog 30 #[.pointer (some ⟨b,0,none⟩),.string s] w (fun v w'=>∃ e' a' l' c',v=.tuple #[]∧Rz (.no e l cc) e' a' l' c'∧(0≤a'∧a'≤(L.length:Int))∧Sep w0 (box b [.slice a L.length c,.int .i64 a',.int .i64 l',.int .i64 c',.int .i64 e'] 73::aa tkE a c 91 4 L::L0) w'):=by
 refine Ret.st (N:=24) func30 fun R hR _=>J.r 3 [] [(5,.pointer (some ⟨b,0,none⟩))] []<|J.callF 6 33 #[.pointer (some ⟨b,0,none⟩)] hb33 kr (qtake_no b a c L k l cc e _ _ _ S0 (by first | assumption | decide | omega)) ?_
 rintro _ w1 ⟨rfl,S1⟩
 replace S1:Sep w0 (box b [.slice a L.length c,.int .i64 k,.int .i64 l,.int .i64 cc,.int .i64 e] 73::aa tkE a c 91 4 L::L0) w1:=S1
 refine J.lb 7 [] [(4,.string ByteArray.empty)] [] S1 0 rfl 10 (.int .i64 e) ?_
 have fk2:¬ (e=0):=he
 refine J.h 2 [] [] [] 12 (.bool (e==0)) (.bool false) (congrArg Value.bool (beq_eq_false_iff_ne.2 fk2))<|J.e 7 [] func30 (hR _ _ ?_)
 exact⟨_,_,_,_,rfl,rz_no he,hk,S1⟩

theorem qword_any (b:Nat) (a:Option Addr) (c:Nat) (L:List Tk) (X:Pz) (e k l cc:Int) (s:ByteArray) (w0:World) (L0:List Eng.Claim) (w:World) (S0:Sep w0 (box b [.slice a L.length c,.int .i64 k,.int .i64 l,.int .i64 cc,.int .i64 e] 73::aa tkE a c 91 4 L::L0) w) (hz:Rz X e k l cc) (hk:0≤k∧k≤(L.length:Int)) (hL:1≤L.length∧L.length≤1000000):Ret prog 30 #[.pointer (some ⟨b,0,none⟩),.string s] w (fun v w'=>∃ e' a' l' c',v=.tuple #[]∧Rz (wdZ L s (X)) e' a' l' c'∧(0≤a'∧a'≤(L.length:Int))∧Sep w0 (box b [.slice a L.length c,.int .i64 a',.int .i64 l',.int .i64 c',.int .i64 e'] 73::aa tkE a c 91 4 L::L0) w'):=by
  cases X with
  | ok j=>obtain ⟨h1,h2,h3,h4⟩:=hz;subst h1 h2 h3 h4;exact qword_ok b a c L k s w0 L0 w S0 hk hL
  | no x y z=>obtain ⟨h1,h2,h3,h4⟩:=hz;subst h1 h3 h4;exact qword_no b a c L k l cc e s w0 L0 w S0 hk h2
theorem hb35:aJ prog 35:=fun _ _=>by kernel_rfl

theorem qend_ok (b:Nat) (a:Option Addr) (c:Nat) (L:List Tk) (k:Int) (w0:World) (L0:List Eng.Claim) (w:World) (S0:Sep w0 (box b [.slice a L.length c,.int .i64 k,.int .i64 0,.int .i64 0,.int .i64 0] 73::aa tkE a c 91 4 L::L0) w) (hk:0≤k∧k≤(L.length:Int)) (hL:1≤L.length∧L.length≤1000000) (htk:∀ j,j<L.length→1≤(L.getD j tk0).ag.size∧(L.getD j tk0).ag.size≤1000000):Ret prog 35 #[.pointer (some ⟨b,0,none⟩)] w (fun v w'=>∃ e' a' l' c',v=.tuple #[]∧Rz (edZ L (.ok k)) e' a' l' c'∧(0≤a'∧a'≤(L.length:Int))∧Sep w0 (box b [.slice a L.length c,.int .i64 a',.int .i64 l',.int .i64 c',.int .i64 e'] 73::aa tkE a c 91 4 L::L0) w'):=by
 refine Ret.st (N:=11) func35 fun R hR _=>J.r 3 [] [(2,.pointer (some ⟨b,0,none⟩))] [] ?_
 by_cases fk1:k<(L.length:Int)
 have htk2:=htk (k).toNat om
 refine J.callF 3 32 #[.pointer (some ⟨b,0,none⟩)] bR kr (cp b a c L k _ _ _ S0 om hL fk1) ?_
 rintro _ w1 ⟨rfl,S1⟩
 replace S1:Sep w0 (box b [.slice a L.length c,.int .i64 k,.int .i64 0,.int .i64 0,.int .i64 0] 73::aa tkE a c 91 4 L::L0) w1:=S1
 refine J.h 1 [] [] [] 4 (.bool (!(((L.getD (k).toNat tk0).ag).toList==(⟨#[]⟩:ByteArray).toList))) (.bool ((((L.getD (k).toNat tk0).ag).size:Int) != 0)) (congrArg Value.bool (beq_nil_neq _)) ?_
 have fk3:¬ ((((L.getD (k).toNat tk0).ag).size:Int)=0):=by omega
 refine J.h 1 [] [] [] 4 (.bool ((((L.getD (k).toNat tk0).ag).size:Int) != 0)) (.bool true) (congrArg Value.bool (bne_iff_ne.2 fk3))<|J.lb 6 [true] [(5,.pointer (some ⟨b,0,none⟩))] [] S1 0 rfl 9 (.int .i64 k)<|J.callF 10 61 #[.pointer (some ⟨b,0,none⟩),.int .i64 k,.int .i64 3] hb61 kr (bv b a c L k k 3 _ _ _ S1 om hL) ?_
 rintro _ w2 ⟨rfl,S2⟩
 replace S2:Sep w0 (box b [.slice a L.length c,.int .i64 k,.int .i64 (lnA L k),.int .i64 (clA L k),.int .i64 3] 73::aa tkE a c 91 4 L::L0) w2:=S2
 refine J.e 1 [] func35 (hR _ _ ?_)
 exact⟨_,_,_,_,rfl,aP (ed_in fk1) (bp dE),⟨om,om⟩,S2⟩
 refine J.callF 3 32 #[.pointer (some ⟨b,0,none⟩)] bR kr (ct b a c L k _ _ _ S0 om hL fk1) ?_
 rintro _ w3 ⟨rfl,S3⟩
 replace S3:Sep w0 (box b [.slice a L.length c,.int .i64 k,.int .i64 0,.int .i64 0,.int .i64 0] 73::aa tkE a c 91 4 L::L0) w3:=S3
 refine J.h 1 [] [] [] 4 (.bool (!((⟨#[]⟩:ByteArray).toList==(⟨#[]⟩:ByteArray).toList))) (.bool false) (congrArg Value.bool (by simp))<|J.e 3 [] func35 (hR _ _ ?_)
 exact⟨_,_,_,_,rfl,aP (ed_not fk1) bB,⟨om,om⟩,S3⟩

theorem qend_no (b:Nat) (a:Option Addr) (c:Nat) (L:List Tk) (k l cc e:Int) (w0:World) (L0:List Eng.Claim) (w:World) (S0:Sep w0 (box b [.slice a L.length c,.int .i64 k,.int .i64 l,.int .i64 cc,.int .i64 e] 73::aa tkE a c 91 4 L::L0) w) (hk:0≤k∧k≤(L.length:Int)) (he:e≠0):Ret prog 35 #[.pointer (some ⟨b,0,none⟩)] w (fun v w'=>∃ e' a' l' c',v=.tuple #[]∧Rz (.no e l cc) e' a' l' c'∧(0≤a'∧a'≤(L.length:Int))∧Sep w0 (box b [.slice a L.length c,.int .i64 a',.int .i64 l',.int .i64 c',.int .i64 e'] 73::aa tkE a c 91 4 L::L0) w'):=by
 refine Ret.st (N:=11) func35 fun R hR _=>J.r 3 [] [(2,.pointer (some ⟨b,0,none⟩))] []<|J.callF 3 32 #[.pointer (some ⟨b,0,none⟩)] bR kr (bt b a c L k l cc e _ _ _ S0 (by first | assumption | decide | omega)) ?_
 rintro _ w1 ⟨rfl,S1⟩
 replace S1:Sep w0 (box b [.slice a L.length c,.int .i64 k,.int .i64 l,.int .i64 cc,.int .i64 e] 73::aa tkE a c 91 4 L::L0) w1:=S1
 refine J.h 1 [] [] [] 4 (.bool (!((⟨#[]⟩:ByteArray).toList==(⟨#[]⟩:ByteArray).toList))) (.bool false) (congrArg Value.bool (by simp))<|J.e 3 [] func35 (hR _ _ ?_)
 exact⟨_,_,_,_,rfl,rz_no he,hk,S1⟩

theorem qend_any (b:Nat) (a:Option Addr) (c:Nat) (L:List Tk) (X:Pz) (e k l cc:Int) (w0:World) (L0:List Eng.Claim) (w:World) (S0:Sep w0 (box b [.slice a L.length c,.int .i64 k,.int .i64 l,.int .i64 cc,.int .i64 e] 73::aa tkE a c 91 4 L::L0) w) (hz:Rz X e k l cc) (hk:0≤k∧k≤(L.length:Int)) (hL:1≤L.length∧L.length≤1000000) (htk:∀ j,j<L.length→1≤(L.getD j tk0).ag.size∧(L.getD j tk0).ag.size≤1000000):Ret prog 35 #[.pointer (some ⟨b,0,none⟩)] w (fun v w'=>∃ e' a' l' c',v=.tuple #[]∧Rz (edZ L X) e' a' l' c'∧(0≤a'∧a'≤(L.length:Int))∧Sep w0 (box b [.slice a L.length c,.int .i64 a',.int .i64 l',.int .i64 c',.int .i64 e'] 73::aa tkE a c 91 4 L::L0) w'):=by
  cases X with
  | ok j=>obtain ⟨h1,h2,h3,h4⟩:=hz;subst h1 h2 h3 h4;exact qend_ok b a c L k w0 L0 w S0 hk hL htk
  | no x y z=>obtain ⟨h1,h2,h3,h4⟩:=hz;subst h1 h3 h4;exact qend_no b a c L k l cc e w0 L0 w S0 hk h2
theorem hb34:aJ prog 34:=fun _ _=>by kernel_rfl

theorem qknown_ok (b:Nat) (a:Option Addr) (c:Nat) (L:List Tk) (k:Int) (ea:Option Addr) (ec:Nat) (ls_:List ByteArray) (w0:World) (L0:List Eng.Claim) (w:World) (S0:Sep w0 (box b [.slice a L.length c,.int .i64 k,.int .i64 0,.int .i64 0,.int .i64 0] 73::aa tkE a c 91 4 L::aa (ah Value.string) ea ec 9 1 ls_::L0) w) (hk:0≤k∧k≤(L.length:Int)) (hL:1≤L.length∧L.length≤1000000) (hen:ls_.length≤1000001) (htk:∀ j,j<L.length→1≤(L.getD j tk0).ag.size∧(L.getD j tk0).ag.size≤1000000):Ret prog 34 #[.pointer (some ⟨b,0,none⟩),.slice ea ls_.length ec] w (fun v w'=>∃ e' a' l' c' x,v=.int .i64 x∧Rz (elZ L ls_ (.ok k)) e' a' l' c'∧(0≤a'∧a'≤(L.length:Int))∧(0≤x∧x≤(ls_.length:Int))∧(isZ (elZ L ls_ (.ok k))=true→x=elV L ls_ (.ok k))∧Sep w0 (box b [.slice a L.length c,.int .i64 a',.int .i64 l',.int .i64 c',.int .i64 e'] 73::aa tkE a c 91 4 L::aa (ah Value.string) ea ec 9 1 ls_::L0) w'):=by
 refine Ret.st (N:=30) func34 fun R hR _=>J.r 7 [] [(7,.pointer (some ⟨b,0,none⟩))] [] ?_
 by_cases fk1:k<(L.length:Int)
 rcases Bool.eq_false_or_eq_true (aV (L.getD (k).toNat tk0).ag) with fk2 | fk2
 refine J.callF 8 62 #[.pointer (some ⟨b,0,none⟩)] hb62 kr (qname_in b a c L k _ _ _ S0 om hL htk fk1 fk2) ?_
 rintro _ w1 ⟨rfl,S1⟩
 replace S1:Sep w0 (box b [.slice a L.length c,.int .i64 (k+1),.int .i64 0,.int .i64 0,.int .i64 0] 73::aa tkE a c 91 4 L::aa (ah Value.string) ea ec 9 1 ls_::L0) w1:=S1
 refine J.r 6 [] [(10,.string ((L.getD (k).toNat tk0).ag)),(9,.slice ea ls_.length ec)] [] ?_
 have:=aQ (S1.nth 2 rfl)
 refine J.c0 0 [] [] [] S1 11 hb63 (br ea ls_.length ec ls_ ((L.getD (k).toNat tk0).ag) _ ((aR (S1.nth 2 rfl) ls_.length rO)) oz) fun w2 S2=>?_
 have hix:=cu (eqT ((L.getD (k).toNat tk0).ag)) ls_
 refine J.lb 8 [] [(6,.int .i64 (ap (eqT ((L.getD (k).toNat tk0).ag)) ls_))] [] S2 0 rfl 15 (.int .i64 0)<|J.c 6 [] [] [] 20 ((ap (eqT ((L.getD (k).toNat tk0).ag)) ls_)<0) (fun fk3=>?_) fun fk3=>?_
 refine J.lb 6 [true] [(21,.pointer (some ⟨b,0,none⟩))] [] S2 0 rfl 25 (.int .i64 (k+1))<|J.wi 1 [] [] [] 26 ((k+1)-1)<|J.callF 27 61 #[.pointer (some ⟨b,0,none⟩),.int .i64 ((k+1)-1),.int .i64 7] hb61 kr (bv b a c L (k+1) ((k+1)-1) 7 _ _ _ S2 om hL) ?_
 rintro _ w3 ⟨rfl,S3⟩
 replace S3:Sep w0 (box b [.slice a L.length c,.int .i64 (k+1),.int .i64 (lnA L ((k+1)-1)),.int .i64 (clA L ((k+1)-1)),.int .i64 7] 73::aa tkE a c 91 4 L::aa (ah Value.string) ea ec 9 1 ls_::L0) w3:=S3
 rw[show(k+1)-1=k by omega] at S3
 refine J.h 5 [] [] [] 29 (.int .i64 (if 0>(ap (eqT ((L.getD (k).toNat tk0).ag)) ls_) then 0 else (ap (eqT ((L.getD (k).toNat tk0).ag)) ls_))) (.int .i64 (max (ap (eqT ((L.getD (k).toNat tk0).ag)) ls_) 0)) (congrArg (Value.int .i64) om)<|J.e 2 [.int .i64 (max (ap (eqT ((L.getD (k).toNat tk0).ag)) ls_) 0)] func34 (hR _ _ ?_)
 have hq_:=el_none (l:=ls_) fk1 fk2 fk3
 exact⟨_,_,_,_,_,rfl,aP hq_ (bp dE),⟨om,om⟩,⟨om,om⟩,(fun hi_=>(by rw[hq_] at hi_;cases hi_)),S3⟩
 refine J.h 6 [false] [] [] 29 (.int .i64 (if 0>(ap (eqT ((L.getD (k).toNat tk0).ag)) ls_) then 0 else (ap (eqT ((L.getD (k).toNat tk0).ag)) ls_))) (.int .i64 (max (ap (eqT ((L.getD (k).toNat tk0).ag)) ls_) 0)) (congrArg (Value.int .i64) om)<|J.e 2 [.int .i64 (max (ap (eqT ((L.getD (k).toNat tk0).ag)) ls_) 0)] func34 (hR _ _ ?_)
 have hq_:=el_in (l:=ls_) fk1 fk2 fk3
 exact⟨_,_,_,_,_,rfl,aP hq_ (bB),⟨om,om⟩,⟨om,om⟩,(fun hi_=>rfl),S2⟩
 refine J.callF 8 62 #[.pointer (some ⟨b,0,none⟩)] hb62 kr (qname_miss b a c L k _ _ _ S0 om hL htk fk1 fk2) ?_
 rintro _ w4 ⟨rfl,S4⟩
 replace S4:Sep w0 (box b [.slice a L.length c,.int .i64 (k+1),.int .i64 (lnA L k),.int .i64 (clA L k),.int .i64 3] 73::aa tkE a c 91 4 L::aa (ah Value.string) ea ec 9 1 ls_::L0) w4:=S4
 refine J.r 6 [] [(10,.string ((L.getD (k).toNat tk0).ag)),(9,.slice ea ls_.length ec)] [] ?_
 have:=aQ (S4.nth 2 rfl)
 refine J.c0 0 [] [] [] S4 11 hb63 (br ea ls_.length ec ls_ ((L.getD (k).toNat tk0).ag) _ ((aR (S4.nth 2 rfl) ls_.length rO)) oz) fun w5 S5=>?_
 have hix:=cu (eqT ((L.getD (k).toNat tk0).ag)) ls_
 refine J.lb 8 [] [(6,.int .i64 (ap (eqT ((L.getD (k).toNat tk0).ag)) ls_))] [] S5 0 rfl 15 (.int .i64 3)<|J.h 12 [false] [] [] 29 (.int .i64 (if 0>(ap (eqT ((L.getD (k).toNat tk0).ag)) ls_) then 0 else (ap (eqT ((L.getD (k).toNat tk0).ag)) ls_))) (.int .i64 (max (ap (eqT ((L.getD (k).toNat tk0).ag)) ls_) 0)) (congrArg (Value.int .i64) om)<|J.e 2 [.int .i64 (max (ap (eqT ((L.getD (k).toNat tk0).ag)) ls_) 0)] func34 (hR _ _ ?_)
 have hq_:=el_miss (l:=ls_) fk1 fk2
 exact⟨_,_,_,_,_,rfl,aP hq_ (bp dE),⟨om,om⟩,⟨om,om⟩,(fun hi_=>(by rw[hq_] at hi_;cases hi_)),S5⟩
 refine J.callF 8 62 #[.pointer (some ⟨b,0,none⟩)] hb62 kr (qname_end b a c L k _ _ _ S0 om hL fk1) ?_
 rintro _ w6 ⟨rfl,S6⟩
 replace S6:Sep w0 (box b [.slice a L.length c,.int .i64 k,.int .i64 (lnA L ((L.length:Int)-1)),.int .i64 (clA L ((L.length:Int)-1)),.int .i64 4] 73::aa tkE a c 91 4 L::aa (ah Value.string) ea ec 9 1 ls_::L0) w6:=S6
 refine J.r 6 [] [(10,.string ByteArray.empty),(9,.slice ea ls_.length ec)] [] ?_
 have:=aQ (S6.nth 2 rfl)
 refine J.c0 0 [] [] [] S6 11 hb63 (br ea ls_.length ec ls_ (ByteArray.empty:ByteArray) _ ((aR (S6.nth 2 rfl) ls_.length rO)) oz) fun w7 S7=>?_
 have hix:=cu (eqT (ByteArray.empty:ByteArray)) ls_
 refine J.lb 8 [] [(6,.int .i64 (ap (eqT (ByteArray.empty:ByteArray)) ls_))] [] S7 0 rfl 15 (.int .i64 4)<|J.h 12 [false] [] [] 29 (.int .i64 (if 0>(ap (eqT (ByteArray.empty:ByteArray)) ls_) then 0 else (ap (eqT (ByteArray.empty:ByteArray)) ls_))) (.int .i64 (max (ap (eqT (ByteArray.empty:ByteArray)) ls_) 0)) (congrArg (Value.int .i64) om)<|J.e 2 [.int .i64 (max (ap (eqT (ByteArray.empty:ByteArray)) ls_) 0)] func34 (hR _ _ ?_)
 have hq_:=el_end (l:=ls_) fk1
 exact⟨_,_,_,_,_,rfl,aP hq_ (rz_en rfl),⟨om,om⟩,⟨om,om⟩,(fun hi_=>(by rw[hq_] at hi_;cases hi_)),S7⟩

theorem qknown_no (b:Nat) (a:Option Addr) (c:Nat) (L:List Tk) (k l cc e:Int) (ea:Option Addr) (ec:Nat) (ls_:List ByteArray) (w0:World) (L0:List Eng.Claim) (w:World) (S0:Sep w0 (box b [.slice a L.length c,.int .i64 k,.int .i64 l,.int .i64 cc,.int .i64 e] 73::aa tkE a c 91 4 L::aa (ah Value.string) ea ec 9 1 ls_::L0) w) (hk:0≤k∧k≤(L.length:Int)) (he:e≠0) (hen:ls_.length≤1000001):Ret prog 34 #[.pointer (some ⟨b,0,none⟩),.slice ea ls_.length ec] w (fun v w'=>∃ e' a' l' c' x,v=.int .i64 x∧Rz (.no e l cc) e' a' l' c'∧(0≤a'∧a'≤(L.length:Int))∧(0≤x∧x≤(ls_.length:Int))∧(isZ (.no e l cc)=true→x=elV L ls_ (.no e l cc))∧Sep w0 (box b [.slice a L.length c,.int .i64 a',.int .i64 l',.int .i64 c',.int .i64 e'] 73::aa tkE a c 91 4 L::aa (ah Value.string) ea ec 9 1 ls_::L0) w'):=by
 refine Ret.st (N:=30) func34 fun R hR _=>J.r 7 [] [(7,.pointer (some ⟨b,0,none⟩))] []<|J.callF 8 62 #[.pointer (some ⟨b,0,none⟩)] hb62 kr (qname_no b a c L k l cc e _ _ _ S0 (by first | assumption | decide | omega)) ?_
 rintro _ w1 ⟨rfl,S1⟩
 replace S1:Sep w0 (box b [.slice a L.length c,.int .i64 k,.int .i64 l,.int .i64 cc,.int .i64 e] 73::aa tkE a c 91 4 L::aa (ah Value.string) ea ec 9 1 ls_::L0) w1:=S1
 refine J.r 6 [] [(10,.string ByteArray.empty),(9,.slice ea ls_.length ec)] [] ?_
 have:=aQ (S1.nth 2 rfl)
 refine J.c0 0 [] [] [] S1 11 hb63 (br ea ls_.length ec ls_ (ByteArray.empty:ByteArray) _ ((aR (S1.nth 2 rfl) ls_.length rO)) oz) fun w2 S2=>?_
 have hix:=cu (eqT (ByteArray.empty:ByteArray)) ls_
 refine J.lb 8 [] [(6,.int .i64 (ap (eqT (ByteArray.empty:ByteArray)) ls_))] [] S2 0 rfl 15 (.int .i64 e) ?_
 have fk2:¬ (e=0):=he
 refine J.h 2 [] [] [] 17 (.bool (e==0)) (.bool false) (congrArg Value.bool (beq_eq_false_iff_ne.2 fk2))<|J.h 10 [false] [] [] 29 (.int .i64 (if 0>(ap (eqT (ByteArray.empty:ByteArray)) ls_) then 0 else (ap (eqT (ByteArray.empty:ByteArray)) ls_))) (.int .i64 (max (ap (eqT (ByteArray.empty:ByteArray)) ls_) 0)) (congrArg (Value.int .i64) om)<|J.e 2 [.int .i64 (max (ap (eqT (ByteArray.empty:ByteArray)) ls_) 0)] func34 (hR _ _ ?_)
 exact⟨_,_,_,_,_,rfl,rz_no he,hk,⟨om,om⟩,(fun h_=>by cases h_),S2⟩

theorem qknown_any (b:Nat) (a:Option Addr) (c:Nat) (L:List Tk) (X:Pz) (e k l cc:Int) (ea:Option Addr) (ec:Nat) (ls_:List ByteArray) (w0:World) (L0:List Eng.Claim) (w:World) (S0:Sep w0 (box b [.slice a L.length c,.int .i64 k,.int .i64 l,.int .i64 cc,.int .i64 e] 73::aa tkE a c 91 4 L::aa (ah Value.string) ea ec 9 1 ls_::L0) w) (hz:Rz X e k l cc) (hk:0≤k∧k≤(L.length:Int)) (hL:1≤L.length∧L.length≤1000000) (hen:ls_.length≤1000001) (htk:∀ j,j<L.length→1≤(L.getD j tk0).ag.size∧(L.getD j tk0).ag.size≤1000000):Ret prog 34 #[.pointer (some ⟨b,0,none⟩),.slice ea ls_.length ec] w (fun v w'=>∃ e' a' l' c' x,v=.int .i64 x∧Rz (elZ L ls_ (X)) e' a' l' c'∧(0≤a'∧a'≤(L.length:Int))∧(0≤x∧x≤(ls_.length:Int))∧(isZ (elZ L ls_ (X))=true→x=elV L ls_ (X))∧Sep w0 (box b [.slice a L.length c,.int .i64 a',.int .i64 l',.int .i64 c',.int .i64 e'] 73::aa tkE a c 91 4 L::aa (ah Value.string) ea ec 9 1 ls_::L0) w'):=by
  cases X with
  | ok j=>obtain ⟨h1,h2,h3,h4⟩:=hz;subst h1 h2 h3 h4;exact qknown_ok b a c L k ea ec ls_ w0 L0 w S0 hk hL hen htk
  | no x y z=>obtain ⟨h1,h2,h3,h4⟩:=hz;subst h1 h3 h4;exact qknown_no b a c L k l cc e ea ec ls_ w0 L0 w S0 hk h2 hen
end Go.Proofs.YtdneanhkcnfgdaaGreatDoor
