/- Walks of functions of this seat, printed by a program over the engine. Conditions: as each theorem says. -/
import Derived.Test.YtdneanhkcnfgdaaGreatDoorZtR22
set_option linter.unusedSimpArgs false
set_option linter.unusedVariables false
namespace Go.Proofs.YtdneanhkcnfgdaaGreatDoor
noncomputable section
open Go.Eng Go.RowKit Go.Proofs.Tryz
set_option maxRecDepth 20000
set_option maxHeartbeats 20000000
theorem li_first {wd:ByteArray} {l:List ByteArray} {t:ByteArray} {i:Int} (ht:t=liT wd l i.toNat) (h0:0≤i) (h:¬ 0<i):(t++(⟨#[32]⟩:ByteArray))++l.getD i.toNat ByteArray.empty=liT wd l (i+1).toNat:=by
  have e:i=0:=by omega
  subst e
  rw[ht,lapp];rfl
theorem li_next {wd:ByteArray} {l:List ByteArray} {t:ByteArray} {i:Int} (ht:t=liT wd l i.toNat) (h0:0≤i) (h:0<i):((t++(⟨#[44]⟩:ByteArray))++(⟨#[32]⟩:ByteArray))++l.getD i.toNat ByteArray.empty=liT wd l (i+1).toNat:=by
  rw[ht,lapp,show(i+1).toNat=i.toNat+1 by omega,liT,if_pos om]
theorem ls_room2 {w:ByteArray} {l:List ByteArray} (hw:w.size≤6) (h:∀ b ∈ l,b.size≤28) (hl:l.length≤20):(lsT w l).size≤610:=by
  have h1:=join_room h hl
  unfold lsT wSep;rw[bw,bw,bw];show(_+1+_)+1≤_;omega
theorem ls_pos (w:ByteArray) (l:List ByteArray):1≤(lsT w l).size:=by unfold lsT;rw[bw];exact Nat.le_add_left _ _
theorem cut_nl (w:ByteArray) (l:List ByteArray):(lsT w l).extract 0 (((lsT w l).size:Int)-1).toNat=(w++(⟨#[32]⟩:ByteArray))++bK l wSep:=by
  have hs:(lsT w l).size=((w++(⟨#[32]⟩:ByteArray))++bK l wSep).size+1:=by unfold lsT;rw[bw];rfl
  rw[hs]
  apply ls_inj
  rw[ls_extract,List.drop_zero]
  unfold lsT
  rw[bl,show(((((w++(⟨#[32]⟩:ByteArray))++bK l wSep).size+1:Nat):Int)-1).toNat=(ls ((w++(⟨#[32]⟩:ByteArray))++bK l wSep)).length by rw[bf];omega]
  exact List.take_left' rfl
section
variable {c:Cht} {m:Mv} {t:ByteArray} {l:List ByteArray}
theorem cdT_cut (hl:cdM c m=l) (h:0<l.length):cdT (cdM c m)=(lsT (⟨#[32,105,102]⟩:ByteArray) l).extract 0 (((lsT (⟨#[32,105,102]⟩:ByteArray) l).size:Int)-1).toNat:=by
  rw[cut_nl,cdT_yes hl h];apply ls_inj;simp only[bl,List.append_assoc];rfl
theorem hd_rin (h:¬ c.ay.length=0):(((lsT (⟨#[115,116,97,116,101,115]⟩:ByteArray) c.aB++lsT (⟨#[105,110,112,117,116,115]⟩:ByteArray) c.ay)++(⟨#[115,116,97,114,116,32]⟩:ByteArray))++c.aB.getD (c.av).toNat ByteArray.empty)++(⟨#[10]⟩:ByteArray)=hdT c:=by
  unfold hdT;rw[if_neg h];apply ls_inj;simp only[bl,List.append_assoc];rfl
theorem hd_rno (h:c.ay.length=0):((lsT (⟨#[115,116,97,116,101,115]⟩:ByteArray) c.aB++(⟨#[115,116,97,114,116,32]⟩:ByteArray))++c.aB.getD (c.av).toNat ByteArray.empty)++(⟨#[10]⟩:ByteArray)=hdT c:=by
  unfold hdT;rw[if_pos h];apply ls_inj;simp only[bl,List.append_assoc];rfl
theorem rmv_00 (h1:cdT (cdM c m)=ByteArray.empty) (h2:afT m=ByteArray.empty):(t++toA c m)++(⟨#[10]⟩:ByteArray)=t++mvT c m:=mv_00 h1 h2
theorem rmv_10 {B:ByteArray} (h1:cdT (cdM c m)=B) (h2:afT m=ByteArray.empty):(t++(toA c m++B))++(⟨#[10]⟩:ByteArray)=t++mvT c m:=by rw[← mv_10 h1 h2];simp only[lapp]
theorem rmv_01 {C D:ByteArray} (h1:cdT (cdM c m)=ByteArray.empty) (h2:afT m=C++D):(t++((toA c m++C)++D))++(⟨#[10]⟩:ByteArray)=t++mvT c m:=by rw[← mv_01 h1 h2];simp only[lapp]
theorem rmv_11 {B C D:ByteArray} (h1:cdT (cdM c m)=B) (h2:afT m=C++D):(t++(((toA c m++B)++C)++D))++(⟨#[10]⟩:ByteArray)=t++mvT c m:=by rw[← mv_11 h1 h2];simp only[lapp]
end

theorem hb39:aJ prog 39:=fun _ _=>by kernel_rfl
def K39_0:=adv 11 [] (aY Tryz.f39)
theorem rnm_any (n0:Int) (w:World) (hn:0≤n0∧n0≤1000):Ret prog 39 #[.int .i64 n0] w (fun v w'=>v=.string (bL n0)∧Sep w [] w'):=by
 refine Ret.st (N:=23) func39 fun R hR S0=>?_
 have L39_1:∀ (mm_:Nat) (n:Int) (s:ByteArray) (w1:World),(0≤n∧n≤n0)→(Lib.decDigits n0.toNat=Lib.decDigits (n).toNat++ls s)→Sep w [] w1→(n).toNat=mm_→J prog 39 23 R K39_0 [(3,.string s),(0,.int .i64 n)] w1:=by
  intro mm1
  induction mm1 using Nat.strongRecOn with
  | _ mm1 ih1 =>
  intro n s w1 hm hd S1 hm1
  refine J.c 6 [] [] [] 5 (n>9) (fun fk1=>?_) fun fk1=>?_
  refine J.h 7 [true] [] [] 7 (.int .i64 (Int.tmod n 10)) (.int .i64 (n%10)) (congrArg (Value.int .i64) (IntWalk.rem_in _ _ om))<|J.wi 1 [] [] [] 8 (48+(n%10))<|J.h 1 [] [] [] 9 (.int .u8 (IntKind.wrap .u8 (48+(n%10)))) (.int .u8 (48+(n%10))) (congrArg (Value.int .u8) (IntWalk.u8_in _ om))<|J.newSlice S1 10 1 [.int .u8 (48+(n%10))] 5 kr ?_
  intro b1 w2 S2
  exact J.ok (OK.bytes 11 48 9 (some ⟨b1,0,none⟩) 1 1 ([(48+(n%10))]) kr kr ⟨rfl,aU (S2.nth 0 rfl)⟩ (fun p hp=>by cases hp;rfl))<|J.r 1 [] [(12,.string s)] []<|J.ok (OK.cat 13 (bytesB ([(48+(n%10))])) s ((bytesB ([(48+(n%10))]))++s) kr (by first | omega | (have:=text_size (m0:=n0) ⟨om,om⟩ hd;(try simp only[ByteArray.size_append,bytesB_size,lit_size,List.size_toArray,List.length_cons,List.length_nil]);omega)) (rfl))<|J.h 5 [] [(3,.string ((bytesB ([(48+(n%10))]))++s))] [] 15 (.int .i64 (IntKind.wrap .i64 (Int.tdiv n 10))) (.int .i64 (n/10)) (congrArg (Value.int .i64) (IntWalk.i64_quo _ _ om))<|J.t 4 (ih1 _ (show((n/10)).toNat<mm1 from by omega) (n/10) ((bytesB ([(48+(n%10))]))++s) w2 om (hd.trans (rn_round om s)) (S2.erase 0) rfl)
  refine J.wi 6 [false] [] [] 17 (48+n)<|J.h 1 [] [] [] 18 (.int .u8 (IntKind.wrap .u8 (48+n))) (.int .u8 (48+n)) (congrArg (Value.int .u8) (IntWalk.u8_in _ om))<|J.newSlice S1 19 1 [.int .u8 (48+n)] 5 kr ?_
  intro b2 w3 S3
  refine J.ok (OK.bytes 20 48 9 (some ⟨b2,0,none⟩) 1 1 ([(48+n)]) kr kr ⟨rfl,aU (S3.nth 0 rfl)⟩ (fun p hp=>by cases hp;rfl))<|J.r 1 [] [(21,.string s)] []<|J.ok (OK.cat 22 (bytesB ([(48+n)])) s ((bytesB ([(48+n)]))++s) kr (by first | omega | (have:=text_size (m0:=n0) ⟨om,om⟩ hd;(try simp only[ByteArray.size_append,bytesB_size,lit_size,List.size_toArray,List.length_cons,List.length_nil]);omega)) (rfl))<|J.e 2 [.string ((bytesB ([(48+n)]))++s)] func39 (hR _ _ ?_)
  exact⟨congrArg Value.string (rn_last om om om hd),S3.nil⟩
 exact J.t 11 (L39_1 _ n0 (ByteArray.empty:ByteArray) w om (text_first) S0 rfl)

theorem hb38:aJ prog 38:=fun _ _=>by kernel_rfl
def K38_0:=adv 16 [] (aY Tryz.f38)
theorem listed_any (wd:ByteArray) (la:Option Addr) (len cap:Nat) (l:List ByteArray) (w:World) (hI:Ones Value.string w la len l) (hwd:wd.size≤6) (hlen:1≤len∧len≤20) (hq:∀ y ∈ l,y.size≤28):Ret prog 38 #[.string wd,.slice la len cap] w (fun v w'=>v=.string (lsT wd l)∧Sep w [] w'):=by
 refine Ret.st (N:=27) func38 fun R hR S0=>?_
 have hll:=hI.len_eq
 have L38_1:∀ (mm_:Nat) (t:ByteArray) (i:Int) (w1:World),(0≤i)→(i≤(len:Int))→((t).size≤10+31*(i).toNat)→(t=liT wd l (i).toNat)→Sep w [] w1→((len:Int)-i).toNat=mm_→J prog 38 27 R K38_0 [(6,.int .i64 i),(5,.string t),(1,.slice la len cap)] w1:=by
  intro mm1
  induction mm1 using Nat.strongRecOn with
  | _ mm1 ih1 =>
  intro t i w1 h0 h1 hz ht S1 hm1
  skip
  refine J.c 8 [] [] [] 11 (i<(len:Int)) (fun fk1=>?_) fun fk1=>?_
  refine J.c 10 [true] [] [] 15 (i>0) (fun fk2=>?_) fun fk2=>?_
  refine J.r 3 [true] [(16,.string t)] [] ?_
  obtain ⟨tt1,htt1⟩:∃ y:ByteArray,y=t++(⟨#[44]⟩:ByteArray):=⟨_,rfl⟩
  have hstt1:tt1.size=t.size+1:=by rw[htt1];exact aw _ _
  refine J.ok (OK.cat 17 t (⟨#[44]⟩:ByteArray) tt1 kr (by rw[← aw,← htt1];omega) (htt1.symm))<|J.r 4 [] [(18,.string tt1)] [5] ?_
  obtain ⟨tt2,htt2⟩:∃ y:ByteArray,y=tt1++(⟨#[32]⟩:ByteArray):=⟨_,rfl⟩
  have hstt2:tt2.size=tt1.size+1:=by rw[htt2];exact aw _ _
  refine J.ok (OK.cat 19 tt1 (⟨#[32]⟩:ByteArray) tt2 kr (by rw[← aw,← htt2];omega) (htt2.symm))<|J.r 2 [] [(21,.int .i64 i),(20,.slice la len cap)] [] ?_
  obtain ⟨p1,hp1,hc1⟩:=hI.at ByteArray.empty (i).toNat om
  have hel1:=bu hq ByteArray.empty (n:=(i).toNat) (by have:=hI.len_eq;omega)
  refine J.ok (OK.index 22 22 1 la p1 len (i).toNat i (p1.add (i).toNat) kr kr hp1 om om nO)<|J.ok (OK.ldCell 23 9 (p1.add (i).toNat) (.string (l.getD (i).toNat ByteArray.empty)) kr kr (S1.cell hc1)) ?_
  obtain ⟨tt3,htt3⟩:∃ y:ByteArray,y=tt2++(l.getD (i).toNat ByteArray.empty):=⟨_,rfl⟩
  have hstt3:tt3.size=tt2.size+(l.getD (i).toNat ByteArray.empty).size:=by rw[htt3];exact aw _ _
  exact J.ok (OK.cat 24 tt2 (l.getD (i).toNat ByteArray.empty) tt3 kr (by rw[← aw,← htt3];omega) (htt3.symm))<|J.wi 6 [] [(5,.string tt3)] [] 13 (i+1)<|J.t 3 (ih1 _ (show((len:Int)-(i+1)).toNat<mm1 from by omega) tt3 (i+1) w1 om om om (by simp only[htt1,htt2,htt3];exact li_next ht h0 om) S1 rfl)
  refine J.r 4 [false] [(18,.string t)] [] ?_
  obtain ⟨tt4,htt4⟩:∃ y:ByteArray,y=t++(⟨#[32]⟩:ByteArray):=⟨_,rfl⟩
  have hstt4:tt4.size=t.size+1:=by rw[htt4];exact aw _ _
  refine J.ok (OK.cat 19 t (⟨#[32]⟩:ByteArray) tt4 kr (by rw[← aw,← htt4];omega) (htt4.symm))<|J.r 2 [] [(21,.int .i64 i),(20,.slice la len cap)] [] ?_
  obtain ⟨p2,hp2,hc2⟩:=hI.at ByteArray.empty (i).toNat om
  have hel2:=bu hq ByteArray.empty (n:=(i).toNat) (by have:=hI.len_eq;omega)
  refine J.ok (OK.index 22 22 1 la p2 len (i).toNat i (p2.add (i).toNat) kr kr hp2 om om nO)<|J.ok (OK.ldCell 23 9 (p2.add (i).toNat) (.string (l.getD (i).toNat ByteArray.empty)) kr kr (S1.cell hc2)) ?_
  obtain ⟨tt5,htt5⟩:∃ y:ByteArray,y=tt4++(l.getD (i).toNat ByteArray.empty):=⟨_,rfl⟩
  have hstt5:tt5.size=tt4.size+(l.getD (i).toNat ByteArray.empty).size:=by rw[htt5];exact aw _ _
  exact J.ok (OK.cat 24 tt4 (l.getD (i).toNat ByteArray.empty) tt5 kr (by rw[← aw,← htt5];omega) (htt5.symm))<|J.wi 6 [] [(5,.string tt5)] [] 13 (i+1)<|J.t 3 (ih1 _ (show((len:Int)-(i+1)).toNat<mm1 from by omega) tt5 (i+1) w1 om om om (by simp only[htt4,htt5];exact li_first ht h0 om) S1 rfl)
  refine J.r 5 [false] [(25,.string t)] [] ?_
  obtain ⟨tt6,htt6⟩:∃ y:ByteArray,y=t++(⟨#[10]⟩:ByteArray):=⟨_,rfl⟩
  have hstt6:tt6.size=t.size+1:=by rw[htt6];exact aw _ _
  refine J.ok (OK.cat 26 t (⟨#[10]⟩:ByteArray) tt6 kr (by rw[← aw,← htt6];omega) (htt6.symm))<|J.e 2 [.string tt6] func38 (hR _ _ ?_)
  exact⟨congrArg Value.string (by simp only[htt6];rw[ht,show i.toNat=l.length by omega];exact li_text om),S1.nil⟩
 exact J.t 16 (L38_1 _ wd 0 w om om om (rfl) S0 rfl)

theorem hb11:aJ prog 11:=fun _ _=>by kernel_rfl
def K11_0:=adv 50 [true] (aY Tryz.f11)
def K11_1:=adv 34 [true] K11_0
def K11_2:=adv 18 [false] K11_1
def K11_3:=adv 43 [false] (aY Tryz.f11)
def K11_4:=adv 34 [true] K11_3
def K11_5:=adv 18 [false] K11_4
theorem rtext_any (c:Cht) (w:World) (hc:chtQ w c) (hv:aM c=true):Ret prog 11 #[.agg #[.slice c.al c.aj c.ao,.slice c.ak c.af c.am,.int .i64 c.av,.slice c.aq c.ai c.au]] w (fun v w'=>v=.string (mvsT c c.ab.length)∧Sep w [] w'):=by
 refine Ret.st (N:=128) func11 fun R hR S0=>?_
 obtain ⟨q1,q2,q3,q4,q5,q6,q7,q8,q9,q10,_⟩:=id hc
 have ql1:=q2.len_eq
 have ql2:=q5.len_eq
 have ql3:=q9.len_eq
 have hvf:=cr hv
 have hvn:=fun k=>ce (aZ hv).1 k
 have hvi:=fun k=>ce (aZ hv).2 k
 have hx0:=hvn (c.av).toNat
 refine J.nw 2 [] [] [] S0 1 [.slice c.al c.aj c.ao,.slice c.ak c.af c.am,.int .i64 c.av,.slice c.aq c.ai c.au] 25 fun b1 w1 S1=>J.lb 5 [] [] [] S1 0 rfl 12 (.slice c.al c.aj c.ao)<|J.c0 0 [] [] [] S1 13 hb38 (listed_any (⟨#[115,116,97,116,101,115]⟩:ByteArray) c.al c.aj c.ao c.aB _ (q2.sep S1) dE om (fun b hb=>Nat.le_trans (ch (aZ hv).1 b hb) dE)) fun w2 S2=>?_
 have:=ls_room2 (w:=(⟨#[115,116,97,116,101,115]⟩:ByteArray)) dE (fun b hb=>Nat.le_trans (ch (aZ hv).1 b hb) dE) (show(c.aB).length≤20 by omega)
 have:=ls_pos (⟨#[115,116,97,116,101,115]⟩:ByteArray) c.aB
 refine J.lb 6 [] [(3,.string (lsT (⟨#[115,116,97,116,101,115]⟩:ByteArray) c.aB))] [] S2 0 rfl 15 (.slice c.ak c.af c.am)<|J.c 3 [] [] [] 17 ((c.af:Int)>0) (fun fk1=>?_) fun fk1=>?_
 refine J.lb 4 [true] [(18,.string (lsT (⟨#[115,116,97,116,101,115]⟩:ByteArray) c.aB))] [] S2 0 rfl 20 (.slice c.ak c.af c.am)<|J.c0 0 [] [] [] S2 21 hb38 (listed_any (⟨#[105,110,112,117,116,115]⟩:ByteArray) c.ak c.af c.am c.ay _ (q5.sep S2) dE om (fun b hb=>Nat.le_trans (ch (aZ hv).2 b hb) dE)) fun w3 S3=>?_
 have:=ls_room2 (w:=(⟨#[105,110,112,117,116,115]⟩:ByteArray)) dE (fun b hb=>Nat.le_trans (ch (aZ hv).2 b hb) dE) (show(c.ay).length≤20 by omega)
 have:=ls_pos (⟨#[105,110,112,117,116,115]⟩:ByteArray) c.ay
 obtain ⟨tt1,htt1⟩:∃ y:ByteArray,y=(lsT (⟨#[115,116,97,116,101,115]⟩:ByteArray) c.aB)++(lsT (⟨#[105,110,112,117,116,115]⟩:ByteArray) c.ay):=⟨_,rfl⟩
 have hstt1:tt1.size=(lsT (⟨#[115,116,97,116,101,115]⟩:ByteArray) c.aB).size+(lsT (⟨#[105,110,112,117,116,115]⟩:ByteArray) c.ay).size:=by rw[htt1];exact aw _ _
 refine J.ok (OK.cat 22 (lsT (⟨#[115,116,97,116,101,115]⟩:ByteArray) c.aB) (lsT (⟨#[105,110,112,117,116,115]⟩:ByteArray) c.ay) tt1 kr (by rw[← aw,← htt1];omega) (htt1.symm))<|J.r 5 [] [(23,.string tt1)] [3] ?_
 obtain ⟨tt2,htt2⟩:∃ y:ByteArray,y=tt1++(⟨#[115,116,97,114,116,32]⟩:ByteArray):=⟨_,rfl⟩
 have hstt2:tt2.size=tt1.size+6:=by rw[htt2];exact aw _ _
 refine J.ok (OK.cat 24 tt1 (⟨#[115,116,97,114,116,32]⟩:ByteArray) tt2 kr (by rw[← aw,← htt2];omega) (htt2.symm))<|J.lb 1 [] [] [] S3 0 rfl 26 (.slice c.al c.aj c.ao)<|J.lb 1 [] [] [] S3 0 rfl 28 (.int .i64 c.av) ?_
 obtain ⟨p1,hp1,hc1⟩:=q2.at ByteArray.empty (c.av).toNat om
 have hel1:=bu q3 ByteArray.empty (n:=(c.av).toNat) (by have:=q2.len_eq;omega)
 refine J.ok (OK.index 29 22 1 c.al p1 c.aj (c.av).toNat c.av (p1.add (c.av).toNat) kr kr hp1 om om nO)<|J.ok (OK.ldCell 30 9 (p1.add (c.av).toNat) (.string (c.aB.getD (c.av).toNat ByteArray.empty)) kr kr (S3.cell hc1)) ?_
 obtain ⟨tt3,htt3⟩:∃ y:ByteArray,y=tt2++(c.aB.getD (c.av).toNat ByteArray.empty):=⟨_,rfl⟩
 have hstt3:tt3.size=tt2.size+(c.aB.getD (c.av).toNat ByteArray.empty).size:=by rw[htt3];exact aw _ _
 refine J.ok (OK.cat 31 tt2 (c.aB.getD (c.av).toNat ByteArray.empty) tt3 kr (by rw[← aw,← htt3];omega) (htt3.symm)) ?_
 obtain ⟨tt4,htt4⟩:∃ y:ByteArray,y=tt3++(⟨#[10]⟩:ByteArray):=⟨_,rfl⟩
 have hstt4:tt4.size=tt3.size+1:=by rw[htt4];exact aw _ _
 refine J.ok (OK.cat 32 tt3 (⟨#[10]⟩:ByteArray) tt4 kr (by rw[← aw,← htt4];omega) (htt4.symm)) ?_
 have L11_1:∀ (mm_:Nat) (t:ByteArray) (i:Int) (w4:World),(0≤i)→(i≤(c.ai:Int))→(t=mvsT c (i).toNat)→Sep w [box b1 [.slice c.al c.aj c.ao,.slice c.ak c.af c.am,.int .i64 c.av,.slice c.aq c.ai c.au] 25] w4→((c.ai:Int)-i).toNat=mm_→J prog 11 128 R K11_0 [(4,.int .i64 i),(3,.string t),(1,.pointer (some ⟨b1,0,none⟩))] w4:=by
  intro mm1
  induction mm1 using Nat.strongRecOn with
  | _ mm1 ih1 =>
  intro t i w4 h0 h1 ht S4 hm1
  have hts:=mvs_room hv om om (fun k hk=>(mv_at hv hk).2.2) i.toNat om
  rw[← ht] at hts
  skip
  refine J.lb 5 [] [(33,.int .i64 i)] [] S4 0 rfl 35 (.slice c.aq c.ai c.au)<|J.c 3 [] [] [] 37 (i<(c.ai:Int)) (fun fk2=>?_) fun fk2=>?_
  have hma:=mv_at hv (k:=i.toNat) om
  have hx1:=hvn ((c.ab.getD (i).toNat (⟨0,0,0,0,0⟩:Mv)).aC).toNat
  have hx2:=hvn ((c.ab.getD (i).toNat (⟨0,0,0,0,0⟩:Mv)).gTo).toNat
  have hx3:=bE (n:=(c.ab.getD (i).toNat (⟨0,0,0,0,0⟩:Mv)).ax) om
  refine J.lb 7 [true] [] [] S4 0 rfl 41 (.slice c.aq c.ai c.au)<|J.r 1 [] [(42,.int .i64 i)] [] ?_
  obtain ⟨p2,hp2,hc2⟩:=q9.at (⟨0,0,0,0,0⟩:Mv) (i).toNat om
  have hel2:=bu q10 (⟨0,0,0,0,0⟩:Mv) (n:=(i).toNat) (by have:=q9.len_eq;omega)
  obtain ⟨q11,q12,q13,q14,q15,_⟩:=id hel2
  refine J.ok (OK.index 43 23 5 c.aq p2 c.ai (i).toNat i (p2.add ((i).toNat*5)) kr kr hp2 om om rfl)<|J.ok (OK.ldCells 44 57 (p2.add ((i).toNat*5)) [.int .i64 ((c.ab.getD (i).toNat (⟨0,0,0,0,0⟩:Mv)).aC),.int .i64 ((c.ab.getD (i).toNat (⟨0,0,0,0,0⟩:Mv)).gTo),.int .i64 ((c.ab.getD (i).toNat (⟨0,0,0,0,0⟩:Mv)).gOn),.int .i64 ((c.ab.getD (i).toNat (⟨0,0,0,0,0⟩:Mv)).aN),.int .i64 ((c.ab.getD (i).toNat (⟨0,0,0,0,0⟩:Mv)).ax)] kr kr kr (fun j_ v_ hj_=>S4.cell (hc2 j_ v_ hj_)))<|J.nw 0 [] [] [] S4 5 [.int .i64 0,.int .i64 0,.int .i64 0,.int .i64 0,.int .i64 0] 57 fun b2 w5 S5=>J.sb 0 [] [] [] S5 0 rfl [.int .i64 ((c.ab.getD (i).toNat (⟨0,0,0,0,0⟩:Mv)).aC),.int .i64 ((c.ab.getD (i).toNat (⟨0,0,0,0,0⟩:Mv)).gTo),.int .i64 ((c.ab.getD (i).toNat (⟨0,0,0,0,0⟩:Mv)).gOn),.int .i64 ((c.ab.getD (i).toNat (⟨0,0,0,0,0⟩:Mv)).aN),.int .i64 ((c.ab.getD (i).toNat (⟨0,0,0,0,0⟩:Mv)).ax)] rfl fun w6 S6=>?_
  have S7:Sep w [aa (ah Value.string) none 0 9 1 ([]),box b2 [.int .i64 ((c.ab.getD (i).toNat (⟨0,0,0,0,0⟩:Mv)).aC),.int .i64 ((c.ab.getD (i).toNat (⟨0,0,0,0,0⟩:Mv)).gTo),.int .i64 ((c.ab.getD (i).toNat (⟨0,0,0,0,0⟩:Mv)).gOn),.int .i64 ((c.ab.getD (i).toNat (⟨0,0,0,0,0⟩:Mv)).aN),.int .i64 ((c.ab.getD (i).toNat (⟨0,0,0,0,0⟩:Mv)).ax)] 57,box b1 [.slice c.al c.aj c.ao,.slice c.ak c.af c.am,.int .i64 c.av,.slice c.aq c.ai c.au] 25] w6:=S6.nilRow 9 1
  have L11_2:∀ (mm_:Nat) (ca:Option Addr) (cc:Nat) (cl:List ByteArray) (j:Int) (w7:World),(0≤j)→(j≤(c.af:Int))→((cl).length≤(j).toNat)→(cl=cdOn c (c.ab.getD (i).toNat (⟨0,0,0,0,0⟩:Mv)) (j).toNat)→Sep w [aa (ah Value.string) ca cc 9 1 cl,box b2 [.int .i64 ((c.ab.getD (i).toNat (⟨0,0,0,0,0⟩:Mv)).aC),.int .i64 ((c.ab.getD (i).toNat (⟨0,0,0,0,0⟩:Mv)).gTo),.int .i64 ((c.ab.getD (i).toNat (⟨0,0,0,0,0⟩:Mv)).gOn),.int .i64 ((c.ab.getD (i).toNat (⟨0,0,0,0,0⟩:Mv)).aN),.int .i64 ((c.ab.getD (i).toNat (⟨0,0,0,0,0⟩:Mv)).ax)] 57,box b1 [.slice c.al c.aj c.ao,.slice c.ak c.af c.am,.int .i64 c.av,.slice c.aq c.ai c.au] 25] w7→((c.af:Int)-j).toNat=mm_→J prog 11 128 R K11_1 [(7,.int .i64 j),(6,.slice ca cl.length cc),(5,.pointer (some ⟨b2,0,none⟩)),(4,.int .i64 i),(3,.string t),(1,.pointer (some ⟨b1,0,none⟩))] w7:=by
   intro mm2
   induction mm2 using Nat.strongRecOn with
   | _ mm2 ih2 =>
   intro ca cc cl j w7 j0 j1 jl hcl S8 hm2
   refine J.lb 5 [] [(45,.int .i64 j)] [] S8 2 rfl 47 (.slice c.ak c.af c.am)<|J.c 3 [] [] [] 49 (j<(c.af:Int)) (fun fk3=>?_) fun fk3=>?_
   have hx4:=hvi j.toNat
   refine J.lb 7 [true] [] [] S8 1 rfl 53 (.int .i64 ((c.ab.getD (i).toNat (⟨0,0,0,0,0⟩:Mv)).gOn))<|J.r 1 [] [(54,.int .i64 j)] []<|J.ok (OK.shr 55 .i64 ((c.ab.getD (i).toNat (⟨0,0,0,0,0⟩:Mv)).gOn) j (Int.fdiv ((c.ab.getD (i).toNat (⟨0,0,0,0,0⟩:Mv)).gOn) (2^(min (j).toNat 64))) kr om (rfl))<|J.h 1 [] [] [] 56 (.int .i64 (IntKind.wrap .i64 ((BitVec.ofInt 64 (Int.fdiv ((c.ab.getD (i).toNat (⟨0,0,0,0,0⟩:Mv)).gOn) (2^(min (j).toNat 64))) &&& (BitVec.ofInt 64 (1:Int))).toNat:Int))) (.int .i64 ((Int.fdiv ((c.ab.getD (i).toNat (⟨0,0,0,0,0⟩:Mv)).gOn) (2^(min (j).toNat 64)))%2)) (congrArg (Value.int .i64) (bi 1 _ _ rF dE))<|J.c 2 [] [] [] 57 (((Int.fdiv ((c.ab.getD (i).toNat (⟨0,0,0,0,0⟩:Mv)).gOn) (2^(min (j).toNat 64)))%2)=1) (fun fk4=>?_) fun fk4=>?_
   refine J.lb 4 [true] [(58,.slice ca cl.length cc)] [] S8 2 rfl 60 (.slice c.ak c.af c.am)<|J.r 1 [] [(61,.int .i64 j)] [] ?_
   obtain ⟨p3,hp3,hc3⟩:=q5.at ByteArray.empty (j).toNat om
   have hel3:=bu q6 ByteArray.empty (n:=(j).toNat) (by have:=q5.len_eq;omega)
   refine J.ok (OK.index 62 22 1 c.ak p3 c.af (j).toNat j (p3.add (j).toNat) kr kr hp3 om om nO)<|J.ok (OK.ldCell 63 9 (p3.add (j).toNat) (.string (c.ay.getD (j).toNat ByteArray.empty)) kr kr (S8.cell hc3))<|J.newSlice S8 64 1 [.string (c.ay.getD (j).toNat ByteArray.empty)] 9 kr ?_
   intro b3 w8 S9
   refine J.append (ah Value.string) S9 1 cl (c.ay.getD (j).toNat ByteArray.empty) 65 22 (.string ByteArray.empty) 16 ⟨b3,0,none⟩ 1 rfl kr kr kr kr dE (aU (S9.nth 0 rfl)) kr kr (⟨om,om⟩) ?_
   intro ra1 rc1 w9 S10
   replace S10:Sep w [box b3 [.string (c.ay.getD (j).toNat ByteArray.empty)] 9,aa (ah Value.string) ra1 rc1 9 1 (cl++[(c.ay.getD (j).toNat ByteArray.empty)]),box b2 [.int .i64 ((c.ab.getD (i).toNat (⟨0,0,0,0,0⟩:Mv)).aC),.int .i64 ((c.ab.getD (i).toNat (⟨0,0,0,0,0⟩:Mv)).gTo),.int .i64 ((c.ab.getD (i).toNat (⟨0,0,0,0,0⟩:Mv)).gOn),.int .i64 ((c.ab.getD (i).toNat (⟨0,0,0,0,0⟩:Mv)).aN),.int .i64 ((c.ab.getD (i).toNat (⟨0,0,0,0,0⟩:Mv)).ax)] 57,box b1 [.slice c.al c.aj c.ao,.slice c.ak c.af c.am,.int .i64 c.av,.slice c.aq c.ai c.au] 25] w9:=S10
   exact J.wi 6 [] [(6,.slice ra1 ((cl++[(c.ay.getD (j).toNat ByteArray.empty)]).length) rc1)] [] 51 (j+1)<|J.t 3 (ih2 _ (show((c.af:Int)-(j+1)).toNat<mm2 from by omega) ra1 rc1 (cl++[(c.ay.getD (j).toNat ByteArray.empty)]) (j+1) w9 om om (by (try rw[List.length_append,List.length_singleton]);omega) (by rw[cdOn_go j0 fk4,← hcl]) (S10.erase 0) rfl)
   exact J.wi 6 [false] [] [] 51 (j+1)<|J.t 3 (ih2 _ (show((c.af:Int)-(j+1)).toNat<mm2 from by omega) ca cc cl (j+1) w7 om om (by (try rw[List.length_append,List.length_singleton]);omega) (by rw[cdOn_no j0 fk4,← hcl]) S8 rfl)
   have L11_3:∀ (mm_:Nat) (ca2:Option Addr) (cc2:Nat) (cl2:List ByteArray) (j2:Int) (w10:World),(0≤j2)→(j2≤(c.af:Int))→((cl2).length≤(c.ay.length+(j2).toNat))→(cl2=cdOff c (c.ab.getD (i).toNat (⟨0,0,0,0,0⟩:Mv)) (j2).toNat)→Sep w [aa (ah Value.string) ca2 cc2 9 1 cl2,box b2 [.int .i64 ((c.ab.getD (i).toNat (⟨0,0,0,0,0⟩:Mv)).aC),.int .i64 ((c.ab.getD (i).toNat (⟨0,0,0,0,0⟩:Mv)).gTo),.int .i64 ((c.ab.getD (i).toNat (⟨0,0,0,0,0⟩:Mv)).gOn),.int .i64 ((c.ab.getD (i).toNat (⟨0,0,0,0,0⟩:Mv)).aN),.int .i64 ((c.ab.getD (i).toNat (⟨0,0,0,0,0⟩:Mv)).ax)] 57,box b1 [.slice c.al c.aj c.ao,.slice c.ak c.af c.am,.int .i64 c.av,.slice c.aq c.ai c.au] 25] w10→((c.af:Int)-j2).toNat=mm_→J prog 11 128 R K11_2 [(8,.int .i64 j2),(6,.slice ca2 cl2.length cc2),(5,.pointer (some ⟨b2,0,none⟩)),(4,.int .i64 i),(3,.string t),(1,.pointer (some ⟨b1,0,none⟩))] w10:=by
    intro mm3
    induction mm3 using Nat.strongRecOn with
    | _ mm3 ih3 =>
    intro ca2 cc2 cl2 j2 w10 j02 j12 jl2 hcl2 S11 hm3
    refine J.lb 5 [] [(66,.int .i64 j2)] [] S11 2 rfl 68 (.slice c.ak c.af c.am)<|J.c 3 [] [] [] 70 (j2<(c.af:Int)) (fun fk5=>?_) fun fk5=>?_
    have hx4:=hvi j2.toNat
    refine J.lb 7 [true] [] [] S11 1 rfl 74 (.int .i64 ((c.ab.getD (i).toNat (⟨0,0,0,0,0⟩:Mv)).aN))<|J.r 1 [] [(75,.int .i64 j2)] []<|J.ok (OK.shr 76 .i64 ((c.ab.getD (i).toNat (⟨0,0,0,0,0⟩:Mv)).aN) j2 (Int.fdiv ((c.ab.getD (i).toNat (⟨0,0,0,0,0⟩:Mv)).aN) (2^(min (j2).toNat 64))) kr om (rfl))<|J.h 1 [] [] [] 77 (.int .i64 (IntKind.wrap .i64 ((BitVec.ofInt 64 (Int.fdiv ((c.ab.getD (i).toNat (⟨0,0,0,0,0⟩:Mv)).aN) (2^(min (j2).toNat 64))) &&& (BitVec.ofInt 64 (1:Int))).toNat:Int))) (.int .i64 ((Int.fdiv ((c.ab.getD (i).toNat (⟨0,0,0,0,0⟩:Mv)).aN) (2^(min (j2).toNat 64)))%2)) (congrArg (Value.int .i64) (bi 1 _ _ rF dE))<|J.c 2 [] [] [] 78 (((Int.fdiv ((c.ab.getD (i).toNat (⟨0,0,0,0,0⟩:Mv)).aN) (2^(min (j2).toNat 64)))%2)=1) (fun fk6=>?_) fun fk6=>?_
    refine J.lb 4 [true] [(79,.slice ca2 cl2.length cc2)] [] S11 2 rfl 81 (.slice c.ak c.af c.am)<|J.r 1 [] [(82,.int .i64 j2)] [] ?_
    obtain ⟨p4,hp4,hc4⟩:=q5.at ByteArray.empty (j2).toNat om
    have hel4:=bu q6 ByteArray.empty (n:=(j2).toNat) (by have:=q5.len_eq;omega)
    refine J.ok (OK.index 83 22 1 c.ak p4 c.af (j2).toNat j2 (p4.add (j2).toNat) kr kr hp4 om om nO)<|J.ok (OK.ldCell 84 9 (p4.add (j2).toNat) (.string (c.ay.getD (j2).toNat ByteArray.empty)) kr kr (S11.cell hc4)) ?_
    obtain ⟨tt5,htt5⟩:∃ y:ByteArray,y=(⟨#[110,111,116,32]⟩:ByteArray)++(c.ay.getD (j2).toNat ByteArray.empty):=⟨_,rfl⟩
    have hstt5:tt5.size=4+(c.ay.getD (j2).toNat ByteArray.empty).size:=by rw[htt5];exact aw _ _
    refine J.ok (OK.cat 85 (⟨#[110,111,116,32]⟩:ByteArray) (c.ay.getD (j2).toNat ByteArray.empty) tt5 kr (by rw[← aw,← htt5];omega) (htt5.symm))<|J.newSlice S11 86 1 [.string tt5] 9 kr ?_
    intro b4 w11 S12
    refine J.append (ah Value.string) S12 1 cl2 tt5 87 22 (.string ByteArray.empty) 16 ⟨b4,0,none⟩ 1 rfl kr kr kr kr dE (aU (S12.nth 0 rfl)) kr kr (⟨om,om⟩) ?_
    intro ra2 rc2 w12 S13
    replace S13:Sep w [box b4 [.string tt5] 9,aa (ah Value.string) ra2 rc2 9 1 (cl2++[tt5]),box b2 [.int .i64 ((c.ab.getD (i).toNat (⟨0,0,0,0,0⟩:Mv)).aC),.int .i64 ((c.ab.getD (i).toNat (⟨0,0,0,0,0⟩:Mv)).gTo),.int .i64 ((c.ab.getD (i).toNat (⟨0,0,0,0,0⟩:Mv)).gOn),.int .i64 ((c.ab.getD (i).toNat (⟨0,0,0,0,0⟩:Mv)).aN),.int .i64 ((c.ab.getD (i).toNat (⟨0,0,0,0,0⟩:Mv)).ax)] 57,box b1 [.slice c.al c.aj c.ao,.slice c.ak c.af c.am,.int .i64 c.av,.slice c.aq c.ai c.au] 25] w12:=S13
    exact J.wi 6 [] [(6,.slice ra2 ((cl2++[tt5]).length) rc2)] [] 72 (j2+1)<|J.t 3 (ih3 _ (show((c.af:Int)-(j2+1)).toNat<mm3 from by omega) ra2 rc2 (cl2++[tt5]) (j2+1) w12 om om (by (try rw[List.length_append,List.length_singleton]);omega) (by rw[cdOff_go j02 fk6,← hcl2];simp only[htt5]) (S13.erase 0) rfl)
    exact J.wi 6 [false] [] [] 72 (j2+1)<|J.t 3 (ih3 _ (show((c.af:Int)-(j2+1)).toNat<mm3 from by omega) ca2 cc2 cl2 (j2+1) w10 om om (by (try rw[List.length_append,List.length_singleton]);omega) (by rw[cdOff_no j02 fk6,← hcl2]) S11 rfl)
    refine J.r 3 [false] [] [] ?_
    obtain ⟨p5,hp5,hc5⟩:=q2.at ByteArray.empty ((c.ab.getD (i).toNat (⟨0,0,0,0,0⟩:Mv)).aC).toNat om
    have hel5:=bu q3 ByteArray.empty (n:=((c.ab.getD (i).toNat (⟨0,0,0,0,0⟩:Mv)).aC).toNat) (by have:=q2.len_eq;omega)
    obtain ⟨p6,hp6,hc6⟩:=q2.at ByteArray.empty ((c.ab.getD (i).toNat (⟨0,0,0,0,0⟩:Mv)).gTo).toNat om
    have hel6:=bu q3 ByteArray.empty (n:=((c.ab.getD (i).toNat (⟨0,0,0,0,0⟩:Mv)).gTo).toNat) (by have:=q2.len_eq;omega)
    refine J.drawStill S11 15 Tryz.mixed kr kr kr ?_
    intro w13 S14
    refine SL.r 88 (.pointer (some ⟨b1,0,none⟩))<|SL.lb S14 2 rfl 89 (.slice c.al c.aj c.ao)<|SL.r 90 (.pointer (some ⟨b2,0,none⟩))<|SL.lb S14 1 rfl 91 (.int .i64 ((c.ab.getD (i).toNat (⟨0,0,0,0,0⟩:Mv)).aC))<|SL.ok dE (OK.index 92 22 1 c.al p5 c.aj ((c.ab.getD (i).toNat (⟨0,0,0,0,0⟩:Mv)).aC).toNat ((c.ab.getD (i).toNat (⟨0,0,0,0,0⟩:Mv)).aC) (p5.add ((c.ab.getD (i).toNat (⟨0,0,0,0,0⟩:Mv)).aC).toNat) kr kr hp5 om om nO)<|SL.ok dE (OK.ldCell 93 9 (p5.add ((c.ab.getD (i).toNat (⟨0,0,0,0,0⟩:Mv)).aC).toNat) (.string (c.aB.getD ((c.ab.getD (i).toNat (⟨0,0,0,0,0⟩:Mv)).aC).toNat ByteArray.empty)) kr kr (S14.cell hc5)) ?_
    obtain ⟨tt6,htt6⟩:∃ y:ByteArray,y=(c.aB.getD ((c.ab.getD (i).toNat (⟨0,0,0,0,0⟩:Mv)).aC).toNat ByteArray.empty)++(⟨#[32,116,111,32]⟩:ByteArray):=⟨_,rfl⟩
    have hstt6:tt6.size=(c.aB.getD ((c.ab.getD (i).toNat (⟨0,0,0,0,0⟩:Mv)).aC).toNat ByteArray.empty).size+4:=by rw[htt6];exact aw _ _
    refine SL.ok dE (OK.cat 94 (c.aB.getD ((c.ab.getD (i).toNat (⟨0,0,0,0,0⟩:Mv)).aC).toNat ByteArray.empty) (⟨#[32,116,111,32]⟩:ByteArray) tt6 kr (by rw[← aw,← htt6];omega) (htt6.symm))<|SL.r 95 (.pointer (some ⟨b1,0,none⟩))<|SL.lb S14 2 rfl 96 (.slice c.al c.aj c.ao)<|SL.r 97 (.pointer (some ⟨b2,1,none⟩))<|SL.lb S14 1 rfl 98 (.int .i64 ((c.ab.getD (i).toNat (⟨0,0,0,0,0⟩:Mv)).gTo))<|SL.ok dE (OK.index 99 22 1 c.al p6 c.aj ((c.ab.getD (i).toNat (⟨0,0,0,0,0⟩:Mv)).gTo).toNat ((c.ab.getD (i).toNat (⟨0,0,0,0,0⟩:Mv)).gTo) (p6.add ((c.ab.getD (i).toNat (⟨0,0,0,0,0⟩:Mv)).gTo).toNat) kr kr hp6 om om nO)<|SL.ok dE (OK.ldCell 100 9 (p6.add ((c.ab.getD (i).toNat (⟨0,0,0,0,0⟩:Mv)).gTo).toNat) (.string (c.aB.getD ((c.ab.getD (i).toNat (⟨0,0,0,0,0⟩:Mv)).gTo).toNat ByteArray.empty)) kr kr (S14.cell hc6)) ?_
    obtain ⟨tt7,htt7⟩:∃ y:ByteArray,y=tt6++(c.aB.getD ((c.ab.getD (i).toNat (⟨0,0,0,0,0⟩:Mv)).gTo).toNat ByteArray.empty):=⟨_,rfl⟩
    have hstt7:tt7.size=tt6.size+(c.aB.getD ((c.ab.getD (i).toNat (⟨0,0,0,0,0⟩:Mv)).gTo).toNat ByteArray.empty).size:=by rw[htt7];exact aw _ _
    refine SL.ok dE (OK.cat 101 tt6 (c.aB.getD ((c.ab.getD (i).toNat (⟨0,0,0,0,0⟩:Mv)).gTo).toNat ByteArray.empty) tt7 kr (by rw[← aw,← htt7];omega) (htt7.symm))<|SL.r 9 (.string tt7)<|SL.done<|TL.done kr<|J.c 7 [] [] [] 104 ((cl2.length:Int)>0) (fun fk7=>?_) fun fk7=>?_
    refine J.r 4 [true] [(105,.slice ca2 cl2.length cc2)] [] ?_
    have:=aQ (S14.nth 0 rfl)
    refine J.c0 0 [] [] [] S14 106 hb38 (listed_any (⟨#[32,105,102]⟩:ByteArray) ca2 cl2.length cc2 cl2 _ ((aR (S14.nth 0 rfl) cl2.length rO)) dE om (by rw[hcl2];exact cdOff_all hv (c.ab.getD (i).toNat (⟨0,0,0,0,0⟩:Mv)) _)) fun w14 S15=>?_
    have:=ls_room2 (w:=(⟨#[32,105,102]⟩:ByteArray)) dE (by rw[hcl2];exact cdOff_all hv (c.ab.getD (i).toNat (⟨0,0,0,0,0⟩:Mv)) _) (show(cl2).length≤20 by omega)
    have:=ls_pos (⟨#[32,105,102]⟩:ByteArray) cl2
    refine J.wi 8 [] [(108,.string (lsT (⟨#[32,105,102]⟩:ByteArray) cl2)),(107,.string tt7)] [] 111 (((lsT (⟨#[32,105,102]⟩:ByteArray) cl2).size:Int)-1)<|J.ok (OK.sliceT 112 9 (lsT (⟨#[32,105,102]⟩:ByteArray) cl2) none (some (.int .i64 (((lsT (⟨#[32,105,102]⟩:ByteArray) cl2).size:Int)-1))) 0 ((((lsT (⟨#[32,105,102]⟩:ByteArray) cl2).size:Int)-1).toNat) kr kr (.inl ⟨rfl,rfl⟩) (.inr ⟨_,_,rfl,om⟩) oz oz) ?_
    have:=size_extract (lsT (⟨#[32,105,102]⟩:ByteArray) cl2) (i:=0) (j:=(((lsT (⟨#[32,105,102]⟩:ByteArray) cl2).size:Int)-1).toNat) oz
    obtain ⟨tt8,htt8⟩:∃ y:ByteArray,y=tt7++((lsT (⟨#[32,105,102]⟩:ByteArray) cl2).extract 0 ((((lsT (⟨#[32,105,102]⟩:ByteArray) cl2).size:Int)-1).toNat)):=⟨_,rfl⟩
    have hstt8:tt8.size=tt7.size+((lsT (⟨#[32,105,102]⟩:ByteArray) cl2).extract 0 ((((lsT (⟨#[32,105,102]⟩:ByteArray) cl2).size:Int)-1).toNat)).size:=by rw[htt8];exact aw _ _
    refine J.ok (OK.cat 113 tt7 ((lsT (⟨#[32,105,102]⟩:ByteArray) cl2).extract 0 ((((lsT (⟨#[32,105,102]⟩:ByteArray) cl2).size:Int)-1).toNat)) tt8 kr (by rw[← aw,← htt8];omega) (htt8.symm))<|J.lb 6 [] [(9,.string tt8)] [] S15 1 rfl 115 (.int .i64 ((c.ab.getD (i).toNat (⟨0,0,0,0,0⟩:Mv)).ax))<|J.c 2 [] [] [] 116 (((c.ab.getD (i).toNat (⟨0,0,0,0,0⟩:Mv)).ax)>0) (fun fk8=>?_) fun fk8=>?_
    refine J.r 3 [true] [(117,.string tt8)] [] ?_
    obtain ⟨tt9,htt9⟩:∃ y:ByteArray,y=tt8++(⟨#[32,97,102,116,101,114,32]⟩:ByteArray):=⟨_,rfl⟩
    have hstt9:tt9.size=tt8.size+7:=by rw[htt9];exact aw _ _
    refine J.ok (OK.cat 118 tt8 (⟨#[32,97,102,116,101,114,32]⟩:ByteArray) tt9 kr (by rw[← aw,← htt9];omega) (htt9.symm))<|J.lb 1 [] [] [] S15 1 rfl 120 (.int .i64 ((c.ab.getD (i).toNat (⟨0,0,0,0,0⟩:Mv)).ax))<|J.c0 0 [] [] [] S15 121 hb39 (rnm_any ((c.ab.getD (i).toNat (⟨0,0,0,0,0⟩:Mv)).ax) _ om) fun w15 S16=>?_
    have:=bE (n:=((c.ab.getD (i).toNat (⟨0,0,0,0,0⟩:Mv)).ax)) om
    obtain ⟨tt10,htt10⟩:∃ y:ByteArray,y=tt9++(bL ((c.ab.getD (i).toNat (⟨0,0,0,0,0⟩:Mv)).ax)):=⟨_,rfl⟩
    have hstt10:tt10.size=tt9.size+(bL ((c.ab.getD (i).toNat (⟨0,0,0,0,0⟩:Mv)).ax)).size:=by rw[htt10];exact aw _ _
    refine J.ok (OK.cat 122 tt9 (bL ((c.ab.getD (i).toNat (⟨0,0,0,0,0⟩:Mv)).ax)) tt10 kr (by rw[← aw,← htt10];omega) (htt10.symm))<|J.r 5 [] [(124,.string tt10),(123,.string t)] [9] ?_
    obtain ⟨tt11,htt11⟩:∃ y:ByteArray,y=t++tt10:=⟨_,rfl⟩
    have hstt11:tt11.size=t.size+tt10.size:=by rw[htt11];exact aw _ _
    refine J.ok (OK.cat 125 t tt10 tt11 kr (by rw[← aw,← htt11];omega) (htt11.symm)) ?_
    obtain ⟨tt12,htt12⟩:∃ y:ByteArray,y=tt11++(⟨#[10]⟩:ByteArray):=⟨_,rfl⟩
    have hstt12:tt12.size=tt11.size+1:=by rw[htt12];exact aw _ _
    exact J.ok (OK.cat 126 tt11 (⟨#[10]⟩:ByteArray) tt12 kr (by rw[← aw,← htt12];omega) (htt12.symm))<|J.wi 6 [] [(3,.string tt12)] [] 39 (i+1)<|J.t 3 (ih1 _ (show((c.ai:Int)-(i+1)).toNat<mm1 from by omega) tt12 (i+1) w15 om om (by rw[bG h0,← ht];simp only[htt6,htt7,htt8,htt9,htt10,htt11,htt12];exact rmv_11 (cdT_cut (bY (n:=0) hcl2 om) om) (afT_yes om)) ((S16.erase 1).erase 0) rfl)
    refine J.r 5 [false] [(124,.string tt8),(123,.string t)] [] ?_
    obtain ⟨tt13,htt13⟩:∃ y:ByteArray,y=t++tt8:=⟨_,rfl⟩
    have hstt13:tt13.size=t.size+tt8.size:=by rw[htt13];exact aw _ _
    refine J.ok (OK.cat 125 t tt8 tt13 kr (by rw[← aw,← htt13];omega) (htt13.symm)) ?_
    obtain ⟨tt14,htt14⟩:∃ y:ByteArray,y=tt13++(⟨#[10]⟩:ByteArray):=⟨_,rfl⟩
    have hstt14:tt14.size=tt13.size+1:=by rw[htt14];exact aw _ _
    exact J.ok (OK.cat 126 tt13 (⟨#[10]⟩:ByteArray) tt14 kr (by rw[← aw,← htt14];omega) (htt14.symm))<|J.wi 6 [] [(3,.string tt14)] [] 39 (i+1)<|J.t 3 (ih1 _ (show((c.ai:Int)-(i+1)).toNat<mm1 from by omega) tt14 (i+1) w14 om om (by rw[bG h0,← ht];simp only[htt6,htt7,htt8,htt13,htt14];exact rmv_10 (cdT_cut (bY (n:=0) hcl2 om) om) (afT_no om)) ((S15.erase 1).erase 0) rfl)
    refine J.lb 6 [false] [] [] S14 1 rfl 115 (.int .i64 ((c.ab.getD (i).toNat (⟨0,0,0,0,0⟩:Mv)).ax))<|J.c 2 [] [] [] 116 (((c.ab.getD (i).toNat (⟨0,0,0,0,0⟩:Mv)).ax)>0) (fun fk9=>?_) fun fk9=>?_
    refine J.r 3 [true] [(117,.string tt7)] [] ?_
    obtain ⟨tt15,htt15⟩:∃ y:ByteArray,y=tt7++(⟨#[32,97,102,116,101,114,32]⟩:ByteArray):=⟨_,rfl⟩
    have hstt15:tt15.size=tt7.size+7:=by rw[htt15];exact aw _ _
    refine J.ok (OK.cat 118 tt7 (⟨#[32,97,102,116,101,114,32]⟩:ByteArray) tt15 kr (by rw[← aw,← htt15];omega) (htt15.symm))<|J.lb 1 [] [] [] S14 1 rfl 120 (.int .i64 ((c.ab.getD (i).toNat (⟨0,0,0,0,0⟩:Mv)).ax))<|J.c0 0 [] [] [] S14 121 hb39 (rnm_any ((c.ab.getD (i).toNat (⟨0,0,0,0,0⟩:Mv)).ax) _ om) fun w16 S17=>?_
    have:=bE (n:=((c.ab.getD (i).toNat (⟨0,0,0,0,0⟩:Mv)).ax)) om
    obtain ⟨tt16,htt16⟩:∃ y:ByteArray,y=tt15++(bL ((c.ab.getD (i).toNat (⟨0,0,0,0,0⟩:Mv)).ax)):=⟨_,rfl⟩
    have hstt16:tt16.size=tt15.size+(bL ((c.ab.getD (i).toNat (⟨0,0,0,0,0⟩:Mv)).ax)).size:=by rw[htt16];exact aw _ _
    refine J.ok (OK.cat 122 tt15 (bL ((c.ab.getD (i).toNat (⟨0,0,0,0,0⟩:Mv)).ax)) tt16 kr (by rw[← aw,← htt16];omega) (htt16.symm))<|J.r 5 [] [(124,.string tt16),(123,.string t)] [9] ?_
    obtain ⟨tt17,htt17⟩:∃ y:ByteArray,y=t++tt16:=⟨_,rfl⟩
    have hstt17:tt17.size=t.size+tt16.size:=by rw[htt17];exact aw _ _
    refine J.ok (OK.cat 125 t tt16 tt17 kr (by rw[← aw,← htt17];omega) (htt17.symm)) ?_
    obtain ⟨tt18,htt18⟩:∃ y:ByteArray,y=tt17++(⟨#[10]⟩:ByteArray):=⟨_,rfl⟩
    have hstt18:tt18.size=tt17.size+1:=by rw[htt18];exact aw _ _
    exact J.ok (OK.cat 126 tt17 (⟨#[10]⟩:ByteArray) tt18 kr (by rw[← aw,← htt18];omega) (htt18.symm))<|J.wi 6 [] [(3,.string tt18)] [] 39 (i+1)<|J.t 3 (ih1 _ (show((c.ai:Int)-(i+1)).toNat<mm1 from by omega) tt18 (i+1) w16 om om (by rw[bG h0,← ht];simp only[htt6,htt7,htt15,htt16,htt17,htt18];exact rmv_01 (cdT_no (bY (n:=0) hcl2 om) om) (afT_yes om)) ((S17.erase 1).erase 0) rfl)
    refine J.r 5 [false] [(124,.string tt7),(123,.string t)] [] ?_
    obtain ⟨tt19,htt19⟩:∃ y:ByteArray,y=t++tt7:=⟨_,rfl⟩
    have hstt19:tt19.size=t.size+tt7.size:=by rw[htt19];exact aw _ _
    refine J.ok (OK.cat 125 t tt7 tt19 kr (by rw[← aw,← htt19];omega) (htt19.symm)) ?_
    obtain ⟨tt20,htt20⟩:∃ y:ByteArray,y=tt19++(⟨#[10]⟩:ByteArray):=⟨_,rfl⟩
    have hstt20:tt20.size=tt19.size+1:=by rw[htt20];exact aw _ _
    exact J.ok (OK.cat 126 tt19 (⟨#[10]⟩:ByteArray) tt20 kr (by rw[← aw,← htt20];omega) (htt20.symm))<|J.wi 6 [] [(3,.string tt20)] [] 39 (i+1)<|J.t 3 (ih1 _ (show((c.ai:Int)-(i+1)).toNat<mm1 from by omega) tt20 (i+1) w13 om om (by rw[bG h0,← ht];simp only[htt6,htt7,htt19,htt20];exact rmv_00 (cdT_no (bY (n:=0) hcl2 om) om) (afT_no om)) ((S14.erase 1).erase 0) rfl)
   exact J.t 9 (L11_3 _ ca cc cl 0 w7 om om om (hcl.trans (by rw[show j=(c.ay.length:Int) by omega];rfl)) S8 rfl)
  exact J.t 12 (L11_2 _ none 0 ([]) 0 w6 om om (by simp) (rfl) S7 rfl)
  refine J.e 7 [.string t] func11 (hR _ _ ?_)
  exact⟨by rw[ht,show i.toNat=c.ab.length by omega];rfl,S4.nil⟩
 exact J.t 9 (L11_1 _ tt4 0 w3 om om (by simp only[htt1,htt2,htt3,htt4];exact hd_rin om) S3 rfl)
 refine J.r 5 [false] [(23,.string (lsT (⟨#[115,116,97,116,101,115]⟩:ByteArray) c.aB))] [] ?_
 obtain ⟨tt21,htt21⟩:∃ y:ByteArray,y=(lsT (⟨#[115,116,97,116,101,115]⟩:ByteArray) c.aB)++(⟨#[115,116,97,114,116,32]⟩:ByteArray):=⟨_,rfl⟩
 have hstt21:tt21.size=(lsT (⟨#[115,116,97,116,101,115]⟩:ByteArray) c.aB).size+6:=by rw[htt21];exact aw _ _
 refine J.ok (OK.cat 24 (lsT (⟨#[115,116,97,116,101,115]⟩:ByteArray) c.aB) (⟨#[115,116,97,114,116,32]⟩:ByteArray) tt21 kr (by rw[← aw,← htt21];omega) (htt21.symm))<|J.lb 1 [] [] [] S2 0 rfl 26 (.slice c.al c.aj c.ao)<|J.lb 1 [] [] [] S2 0 rfl 28 (.int .i64 c.av) ?_
 obtain ⟨p7,hp7,hc7⟩:=q2.at ByteArray.empty (c.av).toNat om
 have hel7:=bu q3 ByteArray.empty (n:=(c.av).toNat) (by have:=q2.len_eq;omega)
 refine J.ok (OK.index 29 22 1 c.al p7 c.aj (c.av).toNat c.av (p7.add (c.av).toNat) kr kr hp7 om om nO)<|J.ok (OK.ldCell 30 9 (p7.add (c.av).toNat) (.string (c.aB.getD (c.av).toNat ByteArray.empty)) kr kr (S2.cell hc7)) ?_
 obtain ⟨tt22,htt22⟩:∃ y:ByteArray,y=tt21++(c.aB.getD (c.av).toNat ByteArray.empty):=⟨_,rfl⟩
 have hstt22:tt22.size=tt21.size+(c.aB.getD (c.av).toNat ByteArray.empty).size:=by rw[htt22];exact aw _ _
 refine J.ok (OK.cat 31 tt21 (c.aB.getD (c.av).toNat ByteArray.empty) tt22 kr (by rw[← aw,← htt22];omega) (htt22.symm)) ?_
 obtain ⟨tt23,htt23⟩:∃ y:ByteArray,y=tt22++(⟨#[10]⟩:ByteArray):=⟨_,rfl⟩
 have hstt23:tt23.size=tt22.size+1:=by rw[htt23];exact aw _ _
 refine J.ok (OK.cat 32 tt22 (⟨#[10]⟩:ByteArray) tt23 kr (by rw[← aw,← htt23];omega) (htt23.symm)) ?_
 have L11_4:∀ (mm_:Nat) (t:ByteArray) (i:Int) (w17:World),(0≤i)→(i≤(c.ai:Int))→(t=mvsT c (i).toNat)→Sep w [box b1 [.slice c.al c.aj c.ao,.slice c.ak c.af c.am,.int .i64 c.av,.slice c.aq c.ai c.au] 25] w17→((c.ai:Int)-i).toNat=mm_→J prog 11 128 R K11_3 [(4,.int .i64 i),(3,.string t),(1,.pointer (some ⟨b1,0,none⟩))] w17:=by
  intro mm4
  induction mm4 using Nat.strongRecOn with
  | _ mm4 ih4 =>
  intro t i w17 h0 h1 ht S18 hm4
  have hts:=mvs_room hv om om (fun k hk=>(mv_at hv hk).2.2) i.toNat om
  rw[← ht] at hts
  skip
  refine J.lb 5 [] [(33,.int .i64 i)] [] S18 0 rfl 35 (.slice c.aq c.ai c.au)<|J.c 3 [] [] [] 37 (i<(c.ai:Int)) (fun fk10=>?_) fun fk10=>?_
  have hma:=mv_at hv (k:=i.toNat) om
  have hx1:=hvn ((c.ab.getD (i).toNat (⟨0,0,0,0,0⟩:Mv)).aC).toNat
  have hx2:=hvn ((c.ab.getD (i).toNat (⟨0,0,0,0,0⟩:Mv)).gTo).toNat
  have hx3:=bE (n:=(c.ab.getD (i).toNat (⟨0,0,0,0,0⟩:Mv)).ax) om
  refine J.lb 7 [true] [] [] S18 0 rfl 41 (.slice c.aq c.ai c.au)<|J.r 1 [] [(42,.int .i64 i)] [] ?_
  obtain ⟨p8,hp8,hc8⟩:=q9.at (⟨0,0,0,0,0⟩:Mv) (i).toNat om
  have hel8:=bu q10 (⟨0,0,0,0,0⟩:Mv) (n:=(i).toNat) (by have:=q9.len_eq;omega)
  obtain ⟨q16,q17,q18,q19,q20,_⟩:=id hel8
  refine J.ok (OK.index 43 23 5 c.aq p8 c.ai (i).toNat i (p8.add ((i).toNat*5)) kr kr hp8 om om rfl)<|J.ok (OK.ldCells 44 57 (p8.add ((i).toNat*5)) [.int .i64 ((c.ab.getD (i).toNat (⟨0,0,0,0,0⟩:Mv)).aC),.int .i64 ((c.ab.getD (i).toNat (⟨0,0,0,0,0⟩:Mv)).gTo),.int .i64 ((c.ab.getD (i).toNat (⟨0,0,0,0,0⟩:Mv)).gOn),.int .i64 ((c.ab.getD (i).toNat (⟨0,0,0,0,0⟩:Mv)).aN),.int .i64 ((c.ab.getD (i).toNat (⟨0,0,0,0,0⟩:Mv)).ax)] kr kr kr (fun j_ v_ hj_=>S18.cell (hc8 j_ v_ hj_)))<|J.nw 0 [] [] [] S18 5 [.int .i64 0,.int .i64 0,.int .i64 0,.int .i64 0,.int .i64 0] 57 fun b5 w18 S19=>J.sb 0 [] [] [] S19 0 rfl [.int .i64 ((c.ab.getD (i).toNat (⟨0,0,0,0,0⟩:Mv)).aC),.int .i64 ((c.ab.getD (i).toNat (⟨0,0,0,0,0⟩:Mv)).gTo),.int .i64 ((c.ab.getD (i).toNat (⟨0,0,0,0,0⟩:Mv)).gOn),.int .i64 ((c.ab.getD (i).toNat (⟨0,0,0,0,0⟩:Mv)).aN),.int .i64 ((c.ab.getD (i).toNat (⟨0,0,0,0,0⟩:Mv)).ax)] rfl fun w19 S20=>?_
  have S21:Sep w [aa (ah Value.string) none 0 9 1 ([]),box b5 [.int .i64 ((c.ab.getD (i).toNat (⟨0,0,0,0,0⟩:Mv)).aC),.int .i64 ((c.ab.getD (i).toNat (⟨0,0,0,0,0⟩:Mv)).gTo),.int .i64 ((c.ab.getD (i).toNat (⟨0,0,0,0,0⟩:Mv)).gOn),.int .i64 ((c.ab.getD (i).toNat (⟨0,0,0,0,0⟩:Mv)).aN),.int .i64 ((c.ab.getD (i).toNat (⟨0,0,0,0,0⟩:Mv)).ax)] 57,box b1 [.slice c.al c.aj c.ao,.slice c.ak c.af c.am,.int .i64 c.av,.slice c.aq c.ai c.au] 25] w19:=S20.nilRow 9 1
  have L11_5:∀ (mm_:Nat) (ca:Option Addr) (cc:Nat) (cl:List ByteArray) (j:Int) (w20:World),(0≤j)→(j≤(c.af:Int))→((cl).length≤(j).toNat)→(cl=cdOn c (c.ab.getD (i).toNat (⟨0,0,0,0,0⟩:Mv)) (j).toNat)→Sep w [aa (ah Value.string) ca cc 9 1 cl,box b5 [.int .i64 ((c.ab.getD (i).toNat (⟨0,0,0,0,0⟩:Mv)).aC),.int .i64 ((c.ab.getD (i).toNat (⟨0,0,0,0,0⟩:Mv)).gTo),.int .i64 ((c.ab.getD (i).toNat (⟨0,0,0,0,0⟩:Mv)).gOn),.int .i64 ((c.ab.getD (i).toNat (⟨0,0,0,0,0⟩:Mv)).aN),.int .i64 ((c.ab.getD (i).toNat (⟨0,0,0,0,0⟩:Mv)).ax)] 57,box b1 [.slice c.al c.aj c.ao,.slice c.ak c.af c.am,.int .i64 c.av,.slice c.aq c.ai c.au] 25] w20→((c.af:Int)-j).toNat=mm_→J prog 11 128 R K11_4 [(7,.int .i64 j),(6,.slice ca cl.length cc),(5,.pointer (some ⟨b5,0,none⟩)),(4,.int .i64 i),(3,.string t),(1,.pointer (some ⟨b1,0,none⟩))] w20:=by
   intro mm5
   induction mm5 using Nat.strongRecOn with
   | _ mm5 ih5 =>
   intro ca cc cl j w20 j0 j1 jl hcl S22 hm5
   refine J.lb 5 [] [(45,.int .i64 j)] [] S22 2 rfl 47 (.slice c.ak c.af c.am)<|J.c 3 [] [] [] 49 (j<(c.af:Int)) (fun fk11=>?_) fun fk11=>?_
   have hx4:=hvi j.toNat
   refine J.lb 7 [true] [] [] S22 1 rfl 53 (.int .i64 ((c.ab.getD (i).toNat (⟨0,0,0,0,0⟩:Mv)).gOn))<|J.r 1 [] [(54,.int .i64 j)] []<|J.ok (OK.shr 55 .i64 ((c.ab.getD (i).toNat (⟨0,0,0,0,0⟩:Mv)).gOn) j (Int.fdiv ((c.ab.getD (i).toNat (⟨0,0,0,0,0⟩:Mv)).gOn) (2^(min (j).toNat 64))) kr om (rfl))<|J.h 1 [] [] [] 56 (.int .i64 (IntKind.wrap .i64 ((BitVec.ofInt 64 (Int.fdiv ((c.ab.getD (i).toNat (⟨0,0,0,0,0⟩:Mv)).gOn) (2^(min (j).toNat 64))) &&& (BitVec.ofInt 64 (1:Int))).toNat:Int))) (.int .i64 ((Int.fdiv ((c.ab.getD (i).toNat (⟨0,0,0,0,0⟩:Mv)).gOn) (2^(min (j).toNat 64)))%2)) (congrArg (Value.int .i64) (bi 1 _ _ rF dE))<|J.c 2 [] [] [] 57 (((Int.fdiv ((c.ab.getD (i).toNat (⟨0,0,0,0,0⟩:Mv)).gOn) (2^(min (j).toNat 64)))%2)=1) (fun fk12=>?_) fun fk12=>?_
   refine J.lb 4 [true] [(58,.slice ca cl.length cc)] [] S22 2 rfl 60 (.slice c.ak c.af c.am)<|J.r 1 [] [(61,.int .i64 j)] [] ?_
   obtain ⟨p9,hp9,hc9⟩:=q5.at ByteArray.empty (j).toNat om
   have hel9:=bu q6 ByteArray.empty (n:=(j).toNat) (by have:=q5.len_eq;omega)
   refine J.ok (OK.index 62 22 1 c.ak p9 c.af (j).toNat j (p9.add (j).toNat) kr kr hp9 om om nO)<|J.ok (OK.ldCell 63 9 (p9.add (j).toNat) (.string (c.ay.getD (j).toNat ByteArray.empty)) kr kr (S22.cell hc9))<|J.newSlice S22 64 1 [.string (c.ay.getD (j).toNat ByteArray.empty)] 9 kr ?_
   intro b6 w21 S23
   refine J.append (ah Value.string) S23 1 cl (c.ay.getD (j).toNat ByteArray.empty) 65 22 (.string ByteArray.empty) 16 ⟨b6,0,none⟩ 1 rfl kr kr kr kr dE (aU (S23.nth 0 rfl)) kr kr (⟨om,om⟩) ?_
   intro ra3 rc3 w22 S24
   replace S24:Sep w [box b6 [.string (c.ay.getD (j).toNat ByteArray.empty)] 9,aa (ah Value.string) ra3 rc3 9 1 (cl++[(c.ay.getD (j).toNat ByteArray.empty)]),box b5 [.int .i64 ((c.ab.getD (i).toNat (⟨0,0,0,0,0⟩:Mv)).aC),.int .i64 ((c.ab.getD (i).toNat (⟨0,0,0,0,0⟩:Mv)).gTo),.int .i64 ((c.ab.getD (i).toNat (⟨0,0,0,0,0⟩:Mv)).gOn),.int .i64 ((c.ab.getD (i).toNat (⟨0,0,0,0,0⟩:Mv)).aN),.int .i64 ((c.ab.getD (i).toNat (⟨0,0,0,0,0⟩:Mv)).ax)] 57,box b1 [.slice c.al c.aj c.ao,.slice c.ak c.af c.am,.int .i64 c.av,.slice c.aq c.ai c.au] 25] w22:=S24
   exact J.wi 6 [] [(6,.slice ra3 ((cl++[(c.ay.getD (j).toNat ByteArray.empty)]).length) rc3)] [] 51 (j+1)<|J.t 3 (ih5 _ (show((c.af:Int)-(j+1)).toNat<mm5 from by omega) ra3 rc3 (cl++[(c.ay.getD (j).toNat ByteArray.empty)]) (j+1) w22 om om (by (try rw[List.length_append,List.length_singleton]);omega) (by rw[cdOn_go j0 fk12,← hcl]) (S24.erase 0) rfl)
   exact J.wi 6 [false] [] [] 51 (j+1)<|J.t 3 (ih5 _ (show((c.af:Int)-(j+1)).toNat<mm5 from by omega) ca cc cl (j+1) w20 om om (by (try rw[List.length_append,List.length_singleton]);omega) (by rw[cdOn_no j0 fk12,← hcl]) S22 rfl)
   have L11_6:∀ (mm_:Nat) (ca2:Option Addr) (cc2:Nat) (cl2:List ByteArray) (j2:Int) (w23:World),(0≤j2)→(j2≤(c.af:Int))→((cl2).length≤(c.ay.length+(j2).toNat))→(cl2=cdOff c (c.ab.getD (i).toNat (⟨0,0,0,0,0⟩:Mv)) (j2).toNat)→Sep w [aa (ah Value.string) ca2 cc2 9 1 cl2,box b5 [.int .i64 ((c.ab.getD (i).toNat (⟨0,0,0,0,0⟩:Mv)).aC),.int .i64 ((c.ab.getD (i).toNat (⟨0,0,0,0,0⟩:Mv)).gTo),.int .i64 ((c.ab.getD (i).toNat (⟨0,0,0,0,0⟩:Mv)).gOn),.int .i64 ((c.ab.getD (i).toNat (⟨0,0,0,0,0⟩:Mv)).aN),.int .i64 ((c.ab.getD (i).toNat (⟨0,0,0,0,0⟩:Mv)).ax)] 57,box b1 [.slice c.al c.aj c.ao,.slice c.ak c.af c.am,.int .i64 c.av,.slice c.aq c.ai c.au] 25] w23→((c.af:Int)-j2).toNat=mm_→J prog 11 128 R K11_5 [(8,.int .i64 j2),(6,.slice ca2 cl2.length cc2),(5,.pointer (some ⟨b5,0,none⟩)),(4,.int .i64 i),(3,.string t),(1,.pointer (some ⟨b1,0,none⟩))] w23:=by
    intro mm6
    induction mm6 using Nat.strongRecOn with
    | _ mm6 ih6 =>
    intro ca2 cc2 cl2 j2 w23 j02 j12 jl2 hcl2 S25 hm6
    refine J.lb 5 [] [(66,.int .i64 j2)] [] S25 2 rfl 68 (.slice c.ak c.af c.am)<|J.c 3 [] [] [] 70 (j2<(c.af:Int)) (fun fk13=>?_) fun fk13=>?_
    have hx4:=hvi j2.toNat
    refine J.lb 7 [true] [] [] S25 1 rfl 74 (.int .i64 ((c.ab.getD (i).toNat (⟨0,0,0,0,0⟩:Mv)).aN))<|J.r 1 [] [(75,.int .i64 j2)] []<|J.ok (OK.shr 76 .i64 ((c.ab.getD (i).toNat (⟨0,0,0,0,0⟩:Mv)).aN) j2 (Int.fdiv ((c.ab.getD (i).toNat (⟨0,0,0,0,0⟩:Mv)).aN) (2^(min (j2).toNat 64))) kr om (rfl))<|J.h 1 [] [] [] 77 (.int .i64 (IntKind.wrap .i64 ((BitVec.ofInt 64 (Int.fdiv ((c.ab.getD (i).toNat (⟨0,0,0,0,0⟩:Mv)).aN) (2^(min (j2).toNat 64))) &&& (BitVec.ofInt 64 (1:Int))).toNat:Int))) (.int .i64 ((Int.fdiv ((c.ab.getD (i).toNat (⟨0,0,0,0,0⟩:Mv)).aN) (2^(min (j2).toNat 64)))%2)) (congrArg (Value.int .i64) (bi 1 _ _ rF dE))<|J.c 2 [] [] [] 78 (((Int.fdiv ((c.ab.getD (i).toNat (⟨0,0,0,0,0⟩:Mv)).aN) (2^(min (j2).toNat 64)))%2)=1) (fun fk14=>?_) fun fk14=>?_
    refine J.lb 4 [true] [(79,.slice ca2 cl2.length cc2)] [] S25 2 rfl 81 (.slice c.ak c.af c.am)<|J.r 1 [] [(82,.int .i64 j2)] [] ?_
    obtain ⟨p10,hp10,hc10⟩:=q5.at ByteArray.empty (j2).toNat om
    have hel10:=bu q6 ByteArray.empty (n:=(j2).toNat) (by have:=q5.len_eq;omega)
    refine J.ok (OK.index 83 22 1 c.ak p10 c.af (j2).toNat j2 (p10.add (j2).toNat) kr kr hp10 om om nO)<|J.ok (OK.ldCell 84 9 (p10.add (j2).toNat) (.string (c.ay.getD (j2).toNat ByteArray.empty)) kr kr (S25.cell hc10)) ?_
    obtain ⟨tt24,htt24⟩:∃ y:ByteArray,y=(⟨#[110,111,116,32]⟩:ByteArray)++(c.ay.getD (j2).toNat ByteArray.empty):=⟨_,rfl⟩
    have hstt24:tt24.size=4+(c.ay.getD (j2).toNat ByteArray.empty).size:=by rw[htt24];exact aw _ _
    refine J.ok (OK.cat 85 (⟨#[110,111,116,32]⟩:ByteArray) (c.ay.getD (j2).toNat ByteArray.empty) tt24 kr (by rw[← aw,← htt24];omega) (htt24.symm))<|J.newSlice S25 86 1 [.string tt24] 9 kr ?_
    intro b7 w24 S26
    refine J.append (ah Value.string) S26 1 cl2 tt24 87 22 (.string ByteArray.empty) 16 ⟨b7,0,none⟩ 1 rfl kr kr kr kr dE (aU (S26.nth 0 rfl)) kr kr (⟨om,om⟩) ?_
    intro ra4 rc4 w25 S27
    replace S27:Sep w [box b7 [.string tt24] 9,aa (ah Value.string) ra4 rc4 9 1 (cl2++[tt24]),box b5 [.int .i64 ((c.ab.getD (i).toNat (⟨0,0,0,0,0⟩:Mv)).aC),.int .i64 ((c.ab.getD (i).toNat (⟨0,0,0,0,0⟩:Mv)).gTo),.int .i64 ((c.ab.getD (i).toNat (⟨0,0,0,0,0⟩:Mv)).gOn),.int .i64 ((c.ab.getD (i).toNat (⟨0,0,0,0,0⟩:Mv)).aN),.int .i64 ((c.ab.getD (i).toNat (⟨0,0,0,0,0⟩:Mv)).ax)] 57,box b1 [.slice c.al c.aj c.ao,.slice c.ak c.af c.am,.int .i64 c.av,.slice c.aq c.ai c.au] 25] w25:=S27
    exact J.wi 6 [] [(6,.slice ra4 ((cl2++[tt24]).length) rc4)] [] 72 (j2+1)<|J.t 3 (ih6 _ (show((c.af:Int)-(j2+1)).toNat<mm6 from by omega) ra4 rc4 (cl2++[tt24]) (j2+1) w25 om om (by (try rw[List.length_append,List.length_singleton]);omega) (by rw[cdOff_go j02 fk14,← hcl2];simp only[htt24]) (S27.erase 0) rfl)
    exact J.wi 6 [false] [] [] 72 (j2+1)<|J.t 3 (ih6 _ (show((c.af:Int)-(j2+1)).toNat<mm6 from by omega) ca2 cc2 cl2 (j2+1) w23 om om (by (try rw[List.length_append,List.length_singleton]);omega) (by rw[cdOff_no j02 fk14,← hcl2]) S25 rfl)
    refine J.r 3 [false] [] [] ?_
    obtain ⟨p11,hp11,hc11⟩:=q2.at ByteArray.empty ((c.ab.getD (i).toNat (⟨0,0,0,0,0⟩:Mv)).aC).toNat om
    have hel11:=bu q3 ByteArray.empty (n:=((c.ab.getD (i).toNat (⟨0,0,0,0,0⟩:Mv)).aC).toNat) (by have:=q2.len_eq;omega)
    obtain ⟨p12,hp12,hc12⟩:=q2.at ByteArray.empty ((c.ab.getD (i).toNat (⟨0,0,0,0,0⟩:Mv)).gTo).toNat om
    have hel12:=bu q3 ByteArray.empty (n:=((c.ab.getD (i).toNat (⟨0,0,0,0,0⟩:Mv)).gTo).toNat) (by have:=q2.len_eq;omega)
    refine J.drawStill S25 15 Tryz.mixed kr kr kr ?_
    intro w26 S28
    refine SL.r 88 (.pointer (some ⟨b1,0,none⟩))<|SL.lb S28 2 rfl 89 (.slice c.al c.aj c.ao)<|SL.r 90 (.pointer (some ⟨b5,0,none⟩))<|SL.lb S28 1 rfl 91 (.int .i64 ((c.ab.getD (i).toNat (⟨0,0,0,0,0⟩:Mv)).aC))<|SL.ok dE (OK.index 92 22 1 c.al p11 c.aj ((c.ab.getD (i).toNat (⟨0,0,0,0,0⟩:Mv)).aC).toNat ((c.ab.getD (i).toNat (⟨0,0,0,0,0⟩:Mv)).aC) (p11.add ((c.ab.getD (i).toNat (⟨0,0,0,0,0⟩:Mv)).aC).toNat) kr kr hp11 om om nO)<|SL.ok dE (OK.ldCell 93 9 (p11.add ((c.ab.getD (i).toNat (⟨0,0,0,0,0⟩:Mv)).aC).toNat) (.string (c.aB.getD ((c.ab.getD (i).toNat (⟨0,0,0,0,0⟩:Mv)).aC).toNat ByteArray.empty)) kr kr (S28.cell hc11)) ?_
    obtain ⟨tt25,htt25⟩:∃ y:ByteArray,y=(c.aB.getD ((c.ab.getD (i).toNat (⟨0,0,0,0,0⟩:Mv)).aC).toNat ByteArray.empty)++(⟨#[32,116,111,32]⟩:ByteArray):=⟨_,rfl⟩
    have hstt25:tt25.size=(c.aB.getD ((c.ab.getD (i).toNat (⟨0,0,0,0,0⟩:Mv)).aC).toNat ByteArray.empty).size+4:=by rw[htt25];exact aw _ _
    refine SL.ok dE (OK.cat 94 (c.aB.getD ((c.ab.getD (i).toNat (⟨0,0,0,0,0⟩:Mv)).aC).toNat ByteArray.empty) (⟨#[32,116,111,32]⟩:ByteArray) tt25 kr (by rw[← aw,← htt25];omega) (htt25.symm))<|SL.r 95 (.pointer (some ⟨b1,0,none⟩))<|SL.lb S28 2 rfl 96 (.slice c.al c.aj c.ao)<|SL.r 97 (.pointer (some ⟨b5,1,none⟩))<|SL.lb S28 1 rfl 98 (.int .i64 ((c.ab.getD (i).toNat (⟨0,0,0,0,0⟩:Mv)).gTo))<|SL.ok dE (OK.index 99 22 1 c.al p12 c.aj ((c.ab.getD (i).toNat (⟨0,0,0,0,0⟩:Mv)).gTo).toNat ((c.ab.getD (i).toNat (⟨0,0,0,0,0⟩:Mv)).gTo) (p12.add ((c.ab.getD (i).toNat (⟨0,0,0,0,0⟩:Mv)).gTo).toNat) kr kr hp12 om om nO)<|SL.ok dE (OK.ldCell 100 9 (p12.add ((c.ab.getD (i).toNat (⟨0,0,0,0,0⟩:Mv)).gTo).toNat) (.string (c.aB.getD ((c.ab.getD (i).toNat (⟨0,0,0,0,0⟩:Mv)).gTo).toNat ByteArray.empty)) kr kr (S28.cell hc12)) ?_
    obtain ⟨tt26,htt26⟩:∃ y:ByteArray,y=tt25++(c.aB.getD ((c.ab.getD (i).toNat (⟨0,0,0,0,0⟩:Mv)).gTo).toNat ByteArray.empty):=⟨_,rfl⟩
    have hstt26:tt26.size=tt25.size+(c.aB.getD ((c.ab.getD (i).toNat (⟨0,0,0,0,0⟩:Mv)).gTo).toNat ByteArray.empty).size:=by rw[htt26];exact aw _ _
    refine SL.ok dE (OK.cat 101 tt25 (c.aB.getD ((c.ab.getD (i).toNat (⟨0,0,0,0,0⟩:Mv)).gTo).toNat ByteArray.empty) tt26 kr (by rw[← aw,← htt26];omega) (htt26.symm))<|SL.r 9 (.string tt26)<|SL.done<|TL.done kr<|J.c 7 [] [] [] 104 ((cl2.length:Int)>0) (fun fk15=>?_) fun fk15=>?_
    refine J.r 4 [true] [(105,.slice ca2 cl2.length cc2)] [] ?_
    have:=aQ (S28.nth 0 rfl)
    refine J.c0 0 [] [] [] S28 106 hb38 (listed_any (⟨#[32,105,102]⟩:ByteArray) ca2 cl2.length cc2 cl2 _ ((aR (S28.nth 0 rfl) cl2.length rO)) dE om (by rw[hcl2];exact cdOff_all hv (c.ab.getD (i).toNat (⟨0,0,0,0,0⟩:Mv)) _)) fun w27 S29=>?_
    have:=ls_room2 (w:=(⟨#[32,105,102]⟩:ByteArray)) dE (by rw[hcl2];exact cdOff_all hv (c.ab.getD (i).toNat (⟨0,0,0,0,0⟩:Mv)) _) (show(cl2).length≤20 by omega)
    have:=ls_pos (⟨#[32,105,102]⟩:ByteArray) cl2
    refine J.wi 8 [] [(108,.string (lsT (⟨#[32,105,102]⟩:ByteArray) cl2)),(107,.string tt26)] [] 111 (((lsT (⟨#[32,105,102]⟩:ByteArray) cl2).size:Int)-1)<|J.ok (OK.sliceT 112 9 (lsT (⟨#[32,105,102]⟩:ByteArray) cl2) none (some (.int .i64 (((lsT (⟨#[32,105,102]⟩:ByteArray) cl2).size:Int)-1))) 0 ((((lsT (⟨#[32,105,102]⟩:ByteArray) cl2).size:Int)-1).toNat) kr kr (.inl ⟨rfl,rfl⟩) (.inr ⟨_,_,rfl,om⟩) oz oz) ?_
    have:=size_extract (lsT (⟨#[32,105,102]⟩:ByteArray) cl2) (i:=0) (j:=(((lsT (⟨#[32,105,102]⟩:ByteArray) cl2).size:Int)-1).toNat) oz
    obtain ⟨tt27,htt27⟩:∃ y:ByteArray,y=tt26++((lsT (⟨#[32,105,102]⟩:ByteArray) cl2).extract 0 ((((lsT (⟨#[32,105,102]⟩:ByteArray) cl2).size:Int)-1).toNat)):=⟨_,rfl⟩
    have hstt27:tt27.size=tt26.size+((lsT (⟨#[32,105,102]⟩:ByteArray) cl2).extract 0 ((((lsT (⟨#[32,105,102]⟩:ByteArray) cl2).size:Int)-1).toNat)).size:=by rw[htt27];exact aw _ _
    refine J.ok (OK.cat 113 tt26 ((lsT (⟨#[32,105,102]⟩:ByteArray) cl2).extract 0 ((((lsT (⟨#[32,105,102]⟩:ByteArray) cl2).size:Int)-1).toNat)) tt27 kr (by rw[← aw,← htt27];omega) (htt27.symm))<|J.lb 6 [] [(9,.string tt27)] [] S29 1 rfl 115 (.int .i64 ((c.ab.getD (i).toNat (⟨0,0,0,0,0⟩:Mv)).ax))<|J.c 2 [] [] [] 116 (((c.ab.getD (i).toNat (⟨0,0,0,0,0⟩:Mv)).ax)>0) (fun fk16=>?_) fun fk16=>?_
    refine J.r 3 [true] [(117,.string tt27)] [] ?_
    obtain ⟨tt28,htt28⟩:∃ y:ByteArray,y=tt27++(⟨#[32,97,102,116,101,114,32]⟩:ByteArray):=⟨_,rfl⟩
    have hstt28:tt28.size=tt27.size+7:=by rw[htt28];exact aw _ _
    refine J.ok (OK.cat 118 tt27 (⟨#[32,97,102,116,101,114,32]⟩:ByteArray) tt28 kr (by rw[← aw,← htt28];omega) (htt28.symm))<|J.lb 1 [] [] [] S29 1 rfl 120 (.int .i64 ((c.ab.getD (i).toNat (⟨0,0,0,0,0⟩:Mv)).ax))<|J.c0 0 [] [] [] S29 121 hb39 (rnm_any ((c.ab.getD (i).toNat (⟨0,0,0,0,0⟩:Mv)).ax) _ om) fun w28 S30=>?_
    have:=bE (n:=((c.ab.getD (i).toNat (⟨0,0,0,0,0⟩:Mv)).ax)) om
    obtain ⟨tt29,htt29⟩:∃ y:ByteArray,y=tt28++(bL ((c.ab.getD (i).toNat (⟨0,0,0,0,0⟩:Mv)).ax)):=⟨_,rfl⟩
    have hstt29:tt29.size=tt28.size+(bL ((c.ab.getD (i).toNat (⟨0,0,0,0,0⟩:Mv)).ax)).size:=by rw[htt29];exact aw _ _
    refine J.ok (OK.cat 122 tt28 (bL ((c.ab.getD (i).toNat (⟨0,0,0,0,0⟩:Mv)).ax)) tt29 kr (by rw[← aw,← htt29];omega) (htt29.symm))<|J.r 5 [] [(124,.string tt29),(123,.string t)] [9] ?_
    obtain ⟨tt30,htt30⟩:∃ y:ByteArray,y=t++tt29:=⟨_,rfl⟩
    have hstt30:tt30.size=t.size+tt29.size:=by rw[htt30];exact aw _ _
    refine J.ok (OK.cat 125 t tt29 tt30 kr (by rw[← aw,← htt30];omega) (htt30.symm)) ?_
    obtain ⟨tt31,htt31⟩:∃ y:ByteArray,y=tt30++(⟨#[10]⟩:ByteArray):=⟨_,rfl⟩
    have hstt31:tt31.size=tt30.size+1:=by rw[htt31];exact aw _ _
    exact J.ok (OK.cat 126 tt30 (⟨#[10]⟩:ByteArray) tt31 kr (by rw[← aw,← htt31];omega) (htt31.symm))<|J.wi 6 [] [(3,.string tt31)] [] 39 (i+1)<|J.t 3 (ih4 _ (show((c.ai:Int)-(i+1)).toNat<mm4 from by omega) tt31 (i+1) w28 om om (by rw[bG h0,← ht];simp only[htt25,htt26,htt27,htt28,htt29,htt30,htt31];exact rmv_11 (cdT_cut (bY (n:=0) hcl2 om) om) (afT_yes om)) ((S30.erase 1).erase 0) rfl)
    refine J.r 5 [false] [(124,.string tt27),(123,.string t)] [] ?_
    obtain ⟨tt32,htt32⟩:∃ y:ByteArray,y=t++tt27:=⟨_,rfl⟩
    have hstt32:tt32.size=t.size+tt27.size:=by rw[htt32];exact aw _ _
    refine J.ok (OK.cat 125 t tt27 tt32 kr (by rw[← aw,← htt32];omega) (htt32.symm)) ?_
    obtain ⟨tt33,htt33⟩:∃ y:ByteArray,y=tt32++(⟨#[10]⟩:ByteArray):=⟨_,rfl⟩
    have hstt33:tt33.size=tt32.size+1:=by rw[htt33];exact aw _ _
    exact J.ok (OK.cat 126 tt32 (⟨#[10]⟩:ByteArray) tt33 kr (by rw[← aw,← htt33];omega) (htt33.symm))<|J.wi 6 [] [(3,.string tt33)] [] 39 (i+1)<|J.t 3 (ih4 _ (show((c.ai:Int)-(i+1)).toNat<mm4 from by omega) tt33 (i+1) w27 om om (by rw[bG h0,← ht];simp only[htt25,htt26,htt27,htt32,htt33];exact rmv_10 (cdT_cut (bY (n:=0) hcl2 om) om) (afT_no om)) ((S29.erase 1).erase 0) rfl)
    refine J.lb 6 [false] [] [] S28 1 rfl 115 (.int .i64 ((c.ab.getD (i).toNat (⟨0,0,0,0,0⟩:Mv)).ax))<|J.c 2 [] [] [] 116 (((c.ab.getD (i).toNat (⟨0,0,0,0,0⟩:Mv)).ax)>0) (fun fk17=>?_) fun fk17=>?_
    refine J.r 3 [true] [(117,.string tt26)] [] ?_
    obtain ⟨tt34,htt34⟩:∃ y:ByteArray,y=tt26++(⟨#[32,97,102,116,101,114,32]⟩:ByteArray):=⟨_,rfl⟩
    have hstt34:tt34.size=tt26.size+7:=by rw[htt34];exact aw _ _
    refine J.ok (OK.cat 118 tt26 (⟨#[32,97,102,116,101,114,32]⟩:ByteArray) tt34 kr (by rw[← aw,← htt34];omega) (htt34.symm))<|J.lb 1 [] [] [] S28 1 rfl 120 (.int .i64 ((c.ab.getD (i).toNat (⟨0,0,0,0,0⟩:Mv)).ax))<|J.c0 0 [] [] [] S28 121 hb39 (rnm_any ((c.ab.getD (i).toNat (⟨0,0,0,0,0⟩:Mv)).ax) _ om) fun w29 S31=>?_
    have:=bE (n:=((c.ab.getD (i).toNat (⟨0,0,0,0,0⟩:Mv)).ax)) om
    obtain ⟨tt35,htt35⟩:∃ y:ByteArray,y=tt34++(bL ((c.ab.getD (i).toNat (⟨0,0,0,0,0⟩:Mv)).ax)):=⟨_,rfl⟩
    have hstt35:tt35.size=tt34.size+(bL ((c.ab.getD (i).toNat (⟨0,0,0,0,0⟩:Mv)).ax)).size:=by rw[htt35];exact aw _ _
    refine J.ok (OK.cat 122 tt34 (bL ((c.ab.getD (i).toNat (⟨0,0,0,0,0⟩:Mv)).ax)) tt35 kr (by rw[← aw,← htt35];omega) (htt35.symm))<|J.r 5 [] [(124,.string tt35),(123,.string t)] [9] ?_
    obtain ⟨tt36,htt36⟩:∃ y:ByteArray,y=t++tt35:=⟨_,rfl⟩
    have hstt36:tt36.size=t.size+tt35.size:=by rw[htt36];exact aw _ _
    refine J.ok (OK.cat 125 t tt35 tt36 kr (by rw[← aw,← htt36];omega) (htt36.symm)) ?_
    obtain ⟨tt37,htt37⟩:∃ y:ByteArray,y=tt36++(⟨#[10]⟩:ByteArray):=⟨_,rfl⟩
    have hstt37:tt37.size=tt36.size+1:=by rw[htt37];exact aw _ _
    exact J.ok (OK.cat 126 tt36 (⟨#[10]⟩:ByteArray) tt37 kr (by rw[← aw,← htt37];omega) (htt37.symm))<|J.wi 6 [] [(3,.string tt37)] [] 39 (i+1)<|J.t 3 (ih4 _ (show((c.ai:Int)-(i+1)).toNat<mm4 from by omega) tt37 (i+1) w29 om om (by rw[bG h0,← ht];simp only[htt25,htt26,htt34,htt35,htt36,htt37];exact rmv_01 (cdT_no (bY (n:=0) hcl2 om) om) (afT_yes om)) ((S31.erase 1).erase 0) rfl)
    refine J.r 5 [false] [(124,.string tt26),(123,.string t)] [] ?_
    obtain ⟨tt38,htt38⟩:∃ y:ByteArray,y=t++tt26:=⟨_,rfl⟩
    have hstt38:tt38.size=t.size+tt26.size:=by rw[htt38];exact aw _ _
    refine J.ok (OK.cat 125 t tt26 tt38 kr (by rw[← aw,← htt38];omega) (htt38.symm)) ?_
    obtain ⟨tt39,htt39⟩:∃ y:ByteArray,y=tt38++(⟨#[10]⟩:ByteArray):=⟨_,rfl⟩
    have hstt39:tt39.size=tt38.size+1:=by rw[htt39];exact aw _ _
    exact J.ok (OK.cat 126 tt38 (⟨#[10]⟩:ByteArray) tt39 kr (by rw[← aw,← htt39];omega) (htt39.symm))<|J.wi 6 [] [(3,.string tt39)] [] 39 (i+1)<|J.t 3 (ih4 _ (show((c.ai:Int)-(i+1)).toNat<mm4 from by omega) tt39 (i+1) w26 om om (by rw[bG h0,← ht];simp only[htt25,htt26,htt38,htt39];exact rmv_00 (cdT_no (bY (n:=0) hcl2 om) om) (afT_no om)) ((S28.erase 1).erase 0) rfl)
   exact J.t 9 (L11_6 _ ca cc cl 0 w20 om om om (hcl.trans (by rw[show j=(c.ay.length:Int) by omega];rfl)) S22 rfl)
  exact J.t 12 (L11_5 _ none 0 ([]) 0 w19 om om (by simp) (rfl) S21 rfl)
  refine J.e 7 [.string t] func11 (hR _ _ ?_)
  exact⟨by rw[ht,show i.toNat=c.ab.length by omega];rfl,S18.nil⟩
 exact J.t 9 (L11_4 _ tt23 0 w2 om om (by simp only[htt21,htt22,htt23];exact hd_rno om) S2 rfl)

end
end Go.Proofs.YtdneanhkcnfgdaaGreatDoor

namespace Go.Proofs.YtdneanhkcnfgdaaGreatDoor
noncomputable section
open Go.Eng Go.RowKit Go.Proofs.Tryz
set_option maxRecDepth 20000
set_option maxHeartbeats 20000000
theorem hb9:aJ prog 9:=fun _ _=>by kernel_rfl
def K9_0:=adv 51 [false] (aY Tryz.f9)
def K9_1:=adv 18 [false] K9_0
def K9_2:=adv 18 [false] K9_1
theorem same_any (sx:Option Addr) (sxc:Nat) (ix:Option Addr) (ixc:Nat) (mx:Option Addr) (mxc:Nat) (sy:Option Addr) (syc:Nat) (iy:Option Addr) (iyc:Nat) (my:Option Addr) (myc:Nat) (S I:List ByteArray) (st_:Int) (Q:List Mv) (w:World) (hx1:Ones Value.string w sx S.length S) (hx2:Ones Value.string w ix I.length I) (hx3:Recs mvE 5 w mx Q.length Q) (hy1:Ones Value.string w sy S.length S) (hy2:Ones Value.string w iy I.length I) (hy3:Recs mvE 5 w my Q.length Q) (hn:S.length≤9223372036854775807∧I.length≤9223372036854775807∧Q.length≤9223372036854775807):Ret prog 9 #[.agg #[.slice sx S.length sxc,.slice ix I.length ixc,.int .i64 st_,.slice mx Q.length mxc],.agg #[.slice sy S.length syc,.slice iy I.length iyc,.int .i64 st_,.slice my Q.length myc]] w (fun v w'=>v=.bool true∧Sep w [] w'):=by
 refine Ret.st (N:=94) func9 fun R hR S0=>J.nw 2 [] [] [] S0 2 [.slice sx S.length sxc,.slice ix I.length ixc,.int .i64 st_,.slice mx Q.length mxc] 25 fun b1 w1 S1=>J.nw 0 [] [] [] S1 3 [.slice sy S.length syc,.slice iy I.length iyc,.int .i64 st_,.slice my Q.length myc] 25 fun b2 w2 S2=>J.lb 6 [] [] [] S2 1 rfl 9 (.slice sx S.length sxc)<|J.lb 2 [] [(10,.int .i64 (S.length:Int))] [] S2 0 rfl 12 (.slice sy S.length syc)<|J.h 2 [] [] [] 14 (.bool ((S.length:Int) != (S.length:Int))) (.bool false) (congrArg Value.bool (by simp))<|J.lb 2 [] [(15,.bool false)] [] S2 1 rfl 17 (.slice ix I.length ixc)<|J.lb 2 [] [(18,.int .i64 (I.length:Int))] [] S2 0 rfl 20 (.slice iy I.length iyc)<|J.h 2 [] [] [] 22 (.bool ((I.length:Int) != (I.length:Int))) (.bool false) (congrArg Value.bool (by simp))<|J.lb 3 [] [(24,.bool false)] [] S2 1 rfl 26 (.int .i64 st_)<|J.lb 1 [] [] [] S2 0 rfl 28 (.int .i64 st_) ?_
 refine J.h 1 [] [] [] 29 (.bool (st_ != st_)) (.bool false) (congrArg Value.bool (by simp))<|J.lb 3 [] [(31,.bool false)] [] S2 1 rfl 33 (.slice mx Q.length mxc)<|J.lb 2 [] [(34,.int .i64 (Q.length:Int))] [] S2 0 rfl 36 (.slice my Q.length myc)<|J.h 2 [] [] [] 38 (.bool ((Q.length:Int) != (Q.length:Int))) (.bool false) (congrArg Value.bool (by simp)) ?_
 have L9_1:∀ (mm_:Nat) (i:Int) (w3:World),(0≤i)→(i≤(S.length:Int))→Sep w [box b2 [.slice sy S.length syc,.slice iy I.length iyc,.int .i64 st_,.slice my Q.length myc] 25,box b1 [.slice sx S.length sxc,.slice ix I.length ixc,.int .i64 st_,.slice mx Q.length mxc] 25] w3→((S.length:Int)-i).toNat=mm_→J prog 9 94 R K9_0 [(5,.int .i64 i),(3,.pointer (some ⟨b2,0,none⟩)),(2,.pointer (some ⟨b1,0,none⟩))] w3:=by
  intro mm1
  induction mm1 using Nat.strongRecOn with
  | _ mm1 ih1 =>
  intro i w3 h0 h1 S3 hm1
  refine J.lb 5 [] [(40,.int .i64 i)] [] S3 1 rfl 42 (.slice sx S.length sxc)<|J.c 3 [] [] [] 44 (i<(S.length:Int)) (fun fk1=>?_) fun fk1=>?_
  refine J.r 5 [true] [] [] ?_
  obtain ⟨p1,hp1,hc1⟩:=hx1.at ByteArray.empty (i).toNat om
  obtain ⟨p2,hp2,hc2⟩:=hy1.at ByteArray.empty (i).toNat om
  refine J.drawStill S3 11 Tryz.mixed kr kr kr ?_
  intro w4 S4
  refine SL.r 47 (.pointer (some ⟨b1,0,none⟩))<|SL.lb S4 1 rfl 48 (.slice sx S.length sxc)<|SL.r 49 (.int .i64 i)<|SL.ok dE (OK.index 50 22 1 sx p1 S.length (i).toNat i (p1.add (i).toNat) kr kr hp1 om om nO)<|SL.ok dE (OK.ldCell 51 9 (p1.add (i).toNat) (.string (S.getD (i).toNat ByteArray.empty)) kr kr (S4.cell hc1))<|SL.r 52 (.pointer (some ⟨b2,0,none⟩))<|SL.lb S4 0 rfl 53 (.slice sy S.length syc)<|SL.r 54 (.int .i64 i)<|SL.ok dE (OK.index 55 22 1 sy p2 S.length (i).toNat i (p2.add (i).toNat) kr kr hp2 om om nO)<|SL.ok dE (OK.ldCell 56 9 (p2.add (i).toNat) (.string (S.getD (i).toNat ByteArray.empty)) kr kr (S4.cell hc2))<|SL.r 57 (.bool (!((S.getD (i).toNat ByteArray.empty).toList==(S.getD (i).toNat ByteArray.empty).toList))) ?_
  exact SL.head (.bool false) (congrArg Value.bool (by simp))<|SL.done<|TL.done kr<|J.wi 6 [false] [] [] 46 (i+1)<|J.t 3 (ih1 _ (show((S.length:Int)-(i+1)).toNat<mm1 from by omega) (i+1) w4 om om S4 rfl)
  have L9_2:∀ (mm_:Nat) (i:Int) (w5:World),(0≤i)→(i≤(I.length:Int))→Sep w [box b2 [.slice sy S.length syc,.slice iy I.length iyc,.int .i64 st_,.slice my Q.length myc] 25,box b1 [.slice sx S.length sxc,.slice ix I.length ixc,.int .i64 st_,.slice mx Q.length mxc] 25] w5→((I.length:Int)-i).toNat=mm_→J prog 9 94 R K9_1 [(6,.int .i64 i),(3,.pointer (some ⟨b2,0,none⟩)),(2,.pointer (some ⟨b1,0,none⟩))] w5:=by
   intro mm2
   induction mm2 using Nat.strongRecOn with
   | _ mm2 ih2 =>
   intro i w5 h0 h1 S5 hm2
   refine J.lb 5 [] [(58,.int .i64 i)] [] S5 1 rfl 60 (.slice ix I.length ixc)<|J.c 3 [] [] [] 62 (i<(I.length:Int)) (fun fk2=>?_) fun fk2=>?_
   refine J.r 5 [true] [] [] ?_
   obtain ⟨p3,hp3,hc3⟩:=hx2.at ByteArray.empty (i).toNat om
   obtain ⟨p4,hp4,hc4⟩:=hy2.at ByteArray.empty (i).toNat om
   refine J.drawStill S5 11 Tryz.mixed kr kr kr ?_
   intro w6 S6
   refine SL.r 65 (.pointer (some ⟨b1,1,none⟩))<|SL.lb S6 1 rfl 66 (.slice ix I.length ixc)<|SL.r 67 (.int .i64 i)<|SL.ok dE (OK.index 68 22 1 ix p3 I.length (i).toNat i (p3.add (i).toNat) kr kr hp3 om om nO)<|SL.ok dE (OK.ldCell 69 9 (p3.add (i).toNat) (.string (I.getD (i).toNat ByteArray.empty)) kr kr (S6.cell hc3))<|SL.r 70 (.pointer (some ⟨b2,1,none⟩))<|SL.lb S6 0 rfl 71 (.slice iy I.length iyc)<|SL.r 72 (.int .i64 i)<|SL.ok dE (OK.index 73 22 1 iy p4 I.length (i).toNat i (p4.add (i).toNat) kr kr hp4 om om nO)<|SL.ok dE (OK.ldCell 74 9 (p4.add (i).toNat) (.string (I.getD (i).toNat ByteArray.empty)) kr kr (S6.cell hc4))<|SL.r 75 (.bool (!((I.getD (i).toNat ByteArray.empty).toList==(I.getD (i).toNat ByteArray.empty).toList))) ?_
   exact SL.head (.bool false) (congrArg Value.bool (by simp))<|SL.done<|TL.done kr<|J.wi 6 [false] [] [] 64 (i+1)<|J.t 3 (ih2 _ (show((I.length:Int)-(i+1)).toNat<mm2 from by omega) (i+1) w6 om om S6 rfl)
   have L9_3:∀ (mm_:Nat) (i:Int) (w7:World),(0≤i)→(i≤(Q.length:Int))→Sep w [box b2 [.slice sy S.length syc,.slice iy I.length iyc,.int .i64 st_,.slice my Q.length myc] 25,box b1 [.slice sx S.length sxc,.slice ix I.length ixc,.int .i64 st_,.slice mx Q.length mxc] 25] w7→((Q.length:Int)-i).toNat=mm_→J prog 9 94 R K9_2 [(7,.int .i64 i),(3,.pointer (some ⟨b2,0,none⟩)),(2,.pointer (some ⟨b1,0,none⟩))] w7:=by
    intro mm3
    induction mm3 using Nat.strongRecOn with
    | _ mm3 ih3 =>
    intro i w7 h0 h1 S7 hm3
    refine J.lb 5 [] [(76,.int .i64 i)] [] S7 1 rfl 78 (.slice mx Q.length mxc)<|J.c 3 [] [] [] 80 (i<(Q.length:Int)) (fun fk3=>?_) fun fk3=>?_
    refine J.r 5 [true] [] [] ?_
    obtain ⟨p5,hp5,hc5⟩:=hx3.at (⟨0,0,0,0,0⟩:Mv) (i).toNat om
    obtain ⟨p6,hp6,hc6⟩:=hy3.at (⟨0,0,0,0,0⟩:Mv) (i).toNat om
    refine J.drawStill S7 11 Tryz.mixed kr kr kr ?_
    intro w8 S8
    refine SL.r 83 (.pointer (some ⟨b1,3,none⟩))<|SL.lb S8 1 rfl 84 (.slice mx Q.length mxc)<|SL.r 85 (.int .i64 i)<|SL.ok dE (OK.index 86 23 5 mx p5 Q.length (i).toNat i (p5.add ((i).toNat*5)) kr kr hp5 om om rfl)<|SL.ok dE (OK.ldCells 87 57 (p5.add ((i).toNat*5)) [.int .i64 ((Q.getD (i).toNat (⟨0,0,0,0,0⟩:Mv)).aC),.int .i64 ((Q.getD (i).toNat (⟨0,0,0,0,0⟩:Mv)).gTo),.int .i64 ((Q.getD (i).toNat (⟨0,0,0,0,0⟩:Mv)).gOn),.int .i64 ((Q.getD (i).toNat (⟨0,0,0,0,0⟩:Mv)).aN),.int .i64 ((Q.getD (i).toNat (⟨0,0,0,0,0⟩:Mv)).ax)] kr kr kr (fun j_ v_ hj_=>S8.cell (hc5 j_ v_ hj_)))<|SL.r 88 (.pointer (some ⟨b2,3,none⟩))<|SL.lb S8 0 rfl 89 (.slice my Q.length myc)<|SL.r 90 (.int .i64 i)<|SL.ok dE (OK.index 91 23 5 my p6 Q.length (i).toNat i (p6.add ((i).toNat*5)) kr kr hp6 om om rfl)<|SL.ok dE (OK.ldCells 92 57 (p6.add ((i).toNat*5)) [.int .i64 ((Q.getD (i).toNat (⟨0,0,0,0,0⟩:Mv)).aC),.int .i64 ((Q.getD (i).toNat (⟨0,0,0,0,0⟩:Mv)).gTo),.int .i64 ((Q.getD (i).toNat (⟨0,0,0,0,0⟩:Mv)).gOn),.int .i64 ((Q.getD (i).toNat (⟨0,0,0,0,0⟩:Mv)).aN),.int .i64 ((Q.getD (i).toNat (⟨0,0,0,0,0⟩:Mv)).ax)] kr kr kr (fun j_ v_ hj_=>S8.cell (hc6 j_ v_ hj_)))<|SL.ok dE (OK.eqS 93 false 57 #[.int .i64 ((Q.getD (i).toNat (⟨0,0,0,0,0⟩:Mv)).aC),.int .i64 ((Q.getD (i).toNat (⟨0,0,0,0,0⟩:Mv)).gTo),.int .i64 ((Q.getD (i).toNat (⟨0,0,0,0,0⟩:Mv)).gOn),.int .i64 ((Q.getD (i).toNat (⟨0,0,0,0,0⟩:Mv)).aN),.int .i64 ((Q.getD (i).toNat (⟨0,0,0,0,0⟩:Mv)).ax)] #[.int .i64 ((Q.getD (i).toNat (⟨0,0,0,0,0⟩:Mv)).aC),.int .i64 ((Q.getD (i).toNat (⟨0,0,0,0,0⟩:Mv)).gTo),.int .i64 ((Q.getD (i).toNat (⟨0,0,0,0,0⟩:Mv)).gOn),.int .i64 ((Q.getD (i).toNat (⟨0,0,0,0,0⟩:Mv)).aN),.int .i64 ((Q.getD (i).toNat (⟨0,0,0,0,0⟩:Mv)).ax)] ((((Q.getD (i).toNat (⟨0,0,0,0,0⟩:Mv)).aC)==((Q.getD (i).toNat (⟨0,0,0,0,0⟩:Mv)).aC))&&((((Q.getD (i).toNat (⟨0,0,0,0,0⟩:Mv)).gTo)==((Q.getD (i).toNat (⟨0,0,0,0,0⟩:Mv)).gTo))&&((((Q.getD (i).toNat (⟨0,0,0,0,0⟩:Mv)).gOn)==((Q.getD (i).toNat (⟨0,0,0,0,0⟩:Mv)).gOn))&&((((Q.getD (i).toNat (⟨0,0,0,0,0⟩:Mv)).aN)==((Q.getD (i).toNat (⟨0,0,0,0,0⟩:Mv)).aN))&&((((Q.getD (i).toNat (⟨0,0,0,0,0⟩:Mv)).ax)==((Q.getD (i).toNat (⟨0,0,0,0,0⟩:Mv)).ax))&&true))))) kr kr kr false (by simp)) ?_
    exact SL.done<|TL.done kr<|J.wi 6 [false] [] [] 82 (i+1)<|J.t 3 (ih3 _ (show((Q.length:Int)-(i+1)).toNat<mm3 from by omega) (i+1) w8 om om S8 rfl)
    refine J.e 6 [.bool true] func9 (hR _ _ ?_)
    exact⟨rfl,S7.nil⟩
   exact J.t 9 (L9_3 _ 0 w5 om om S5 rfl)
  exact J.t 9 (L9_2 _ 0 w3 om om S3 rfl)
 exact J.t 11 (L9_1 _ 0 w2 om om S2 rfl)
end
end Go.Proofs.YtdneanhkcnfgdaaGreatDoor
