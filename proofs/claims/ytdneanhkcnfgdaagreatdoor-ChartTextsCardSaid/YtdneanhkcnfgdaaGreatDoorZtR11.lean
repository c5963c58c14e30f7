/- Walks of functions of this seat, printed by a program over the engine. Conditions: as each theorem says. -/
import Derived.Test.YtdneanhkcnfgdaaGreatDoorZtR9
set_option linter.unusedSimpArgs false
set_option linter.unusedVariables false
namespace Go.Proofs.YtdneanhkcnfgdaaGreatDoor
noncomputable section
open Go.Eng Go.RowKit Go.Proofs.Tryz
set_option maxRecDepth 20000
set_option maxHeartbeats 20000000
theorem hb51:aJ prog 51:=fun _ _=>by kernel_rfl
theorem split10_any (s:ByteArray) (w:World) (hs:s.size<4294967281) (hW:TabW w):Ret prog 51 #[.string s,.string ⟨#[10]⟩] w (fun v w'=>∃ b,v=.slice (some ⟨b,0,none⟩) (aT 10 s).length (aT 10 s).length∧Sep w [box b ((aT 10 s).map Value.string) 9] w'):=by
  obtain ⟨m,hm⟩:=hW.2.2.2
  refine Calls.mono (Tryz.strings_Split s ⟨#[10]⟩ m w hs hm (Nat.le_refl 1)) fun e w' ⟨he,hw⟩=>?_
  subst he hw
  rw[splitB_len,splitB_pieces]
  exact⟨_,rfl,_,rfl,Sep.of_alloc _ _ _⟩
theorem hb22:aJ prog 22:=fun _ _=>by kernel_rfl
def K22_0:=adv 20 [] (aY Tryz.f22)
def K22_1:=adv 28 [true] K22_0
def K22_2:=adv 29 [true] K22_1
theorem lex_any (s:ByteArray) (w:World) (hs:s.size≤1000000) (hW0:TabW w):Ret prog 22 #[.string s] w (fun v w'=>∃ a c,∃ out:List Ln,v=.tuple #[.slice a out.length c,.agg #[.int .i64 (blT s),.int .i64 (bcT s)],.bool (okT s)]∧(okT s=true→bW (aF 10 (ls s)) 1=out.map (fun x=>x.bS))∧((∀ x ∈ out,x.gS_n=x.bS.length)∧(out.length:Int)≤s.size+1)∧Sep w (aa lnE a c 63 1 out::tlF out) w'):=by
 refine Ret.st (N:=86) func22 fun R hR S0=>?_
 have hW:=hW0
 refine J.nw 3 [] [] [] S0 3 [.int .i64 0,.int .i64 0] 32 fun b1 w1 S1=>J.r 10 [] [(12,.string s),(5,.slice none 0 0)] []<|J.callF 13 51 #[.string s,.string ⟨#[10]⟩] hb51 kr (split10_any s _ om (cv hW S1)) ?_
 rintro _ w2 ⟨b2,rfl,T1⟩
 have S2:Sep w [box b2 ((aT 10 s).map Value.string) 9,box b1 [.int .i64 0,.int .i64 0] 32] w2:=S1.trans T1
 have:=splitOn_bound 10 (ls s);have:=pieces_len 10 s;have:=bf s
 refine J.r 5 [] [(15,.int .i64 0),(14,.int .i64 ((aT 10 s).length:Int))] [] ?_
 have S3:Sep w (box b2 ((aT 10 s).map Value.string) 9::box b1 [.int .i64 0,.int .i64 0] 32::tlF ([])) w2:=S2
 have S4:Sep w (aa lnE none 0 63 1 ([])::box b2 ((aT 10 s).map Value.string) 9::box b1 [.int .i64 0,.int .i64 0] 32::tlF ([])) w2:=S3.nilRow 63 1
 have L22_1:∀ (mm_:Nat) (ra:Option Addr) (rc:Nat) (out:List Ln) (n:Int) (w3:World),(0≤n)→(n≤((aT 10 s).length:Int))→(((out).length:Int)≤n)→(∀ x ∈ out,x.gS_n=x.bS.length)→(bW (aF 10 (ls s)) 1=(out).map (fun x=>x.bS)++bW ((aF 10 (ls s)).drop (n).toNat) (n+1))→(badT s=badS ((aF 10 (ls s)).drop (n).toNat) (n+1))→Sep w (aa lnE ra rc 63 1 out::box b2 ((aT 10 s).map Value.string) 9::box b1 [.int .i64 0,.int .i64 0] 32::tlF out) w3→(((aT 10 s).length:Int)-n).toNat=mm_→J prog 22 86 R K22_0 [(15,.int .i64 n),(14,.int .i64 ((aT 10 s).length:Int)),(13,.slice (some ⟨b2,0,none⟩) ((aT 10 s).length) ((aT 10 s).length)),(5,.slice ra out.length rc),(3,.pointer (some ⟨b1,0,none⟩))] w3:=by
  intro mm1
  induction mm1 using Nat.strongRecOn with
  | _ mm1 ih1 =>
  intro ra rc out n w3 h0 h1 hol hnn hQ hB S5 hm1
  refine J.c 5 [] [] [] 16 (n<((aT 10 s).length:Int)) (fun fk1=>?_) fun fk1=>?_
  refine J.r 7 [true] [(17,.int .i64 n)] [] ?_
  obtain ⟨p1,hp1,hc1⟩:=(box_ones (S5.nth 1 rfl) ((aT 10 s).length) rfl).at ByteArray.empty (n).toNat om
  refine J.ok (OK.index 18 22 1 (some ⟨b2,0,none⟩) p1 ((aT 10 s).length) (n).toNat n (p1.add (n).toNat) kr kr hp1 om om nO)<|J.ok (OK.ldCell 19 9 (p1.add (n).toNat) (.string ((aT 10 s).getD (n).toNat ByteArray.empty)) kr kr hc1) ?_
  obtain ⟨x,hx⟩:∃ x:ByteArray,x=(aT 10 s).getD (n).toNat ByteArray.empty:=⟨_,rfl⟩
  refine J.head (.string x) (congrArg Value.string hx.symm) ?_
  have hx1:ls x=(aF 10 (ls s)).getD n.toNat []:=by rw[hx];exact piecesB_getD 10 s n.toNat om
  have hxs:x.size≤s.size:=by rw[hx];exact piece_size 10 s n.toNat
  have S6:Sep w (aa tkE none 0 91 4 ([])::aa lnE ra rc 63 1 out::box b2 ((aT 10 s).map Value.string) 9::box b1 [.int .i64 0,.int .i64 0] 32::tlF out) w3:=S5.nilRow 91 4
  have L22_2:∀ (mm_:Nat) (la:Option Addr) (lc:Nat) (l:List Tk) (i:Int) (w4:World),(0≤i)→(i≤(x.size:Int))→(((l).length:Int)≤i)→(cg (ls x) [] (n+1) 1=l++cg ((ls x).drop (i).toNat) [] (n+1) (i+1))→(badL (ls x) (n+1) 1=badL ((ls x).drop (i).toNat) (n+1) (i+1))→Sep w (aa tkE la lc 91 4 l::aa lnE ra rc 63 1 out::box b2 ((aT 10 s).map Value.string) 9::box b1 [.int .i64 0,.int .i64 0] 32::tlF out) w4→((x.size:Int)-i).toNat=mm_→J prog 22 86 R K22_1 [(9,.int .i64 i),(8,.slice la l.length lc),(7,.string x),(6,.int .i64 n),(15,.int .i64 n),(14,.int .i64 ((aT 10 s).length:Int)),(13,.slice (some ⟨b2,0,none⟩) ((aT 10 s).length) ((aT 10 s).length)),(5,.slice ra out.length rc),(3,.pointer (some ⟨b1,0,none⟩))] w4:=by
   intro mm2
   induction mm2 using Nat.strongRecOn with
   | _ mm2 ih2 =>
   intro la lc l i w4 i0 i1 hll hW hb S7 hm2
   refine J.c 8 [] [] [] 23 (i<(x.size:Int)) (fun fk2=>?_) fun fk2=>?_
   refine J.wi 7 [true] [] [] 25 (n+1)<|J.wi 2 [] [] [] 27 (i+1)<|J.nw 1 [] [(28,.agg #[.int .i64 (n+1),.int .i64 (i+1)])] [] S7 10 [.int .i64 0,.int .i64 0] 32 fun b3 w5 S8=>J.sb 0 [] [] [] S8 0 rfl [.int .i64 (n+1),.int .i64 (i+1)] rfl fun w6 S9=>?_
   have L22_3:∀ (mm_:Nat) (k:Int) (w7:World),(i≤k)→(k≤(x.size:Int))→(cg (ls x) [] (n+1) 1=l++cg ((ls x).drop (k).toNat) (ls (x.extract (i).toNat (k).toNat)) (n+1) (k+1))→(badL (ls x) (n+1) 1=badL ((ls x).drop (k).toNat) (n+1) (k+1))→Sep w (box b3 [.int .i64 (n+1),.int .i64 (i+1)] 32::aa tkE la lc 91 4 l::aa lnE ra rc 63 1 out::box b2 ((aT 10 s).map Value.string) 9::box b1 [.int .i64 0,.int .i64 0] 32::tlF out) w7→((x.size:Int)-k).toNat=mm_→J prog 22 86 R K22_2 [(11,.int .i64 k),(10,.pointer (some ⟨b3,0,none⟩)),(9,.int .i64 i),(8,.slice la l.length lc),(7,.string x),(6,.int .i64 n),(15,.int .i64 n),(14,.int .i64 ((aT 10 s).length:Int)),(13,.slice (some ⟨b2,0,none⟩) ((aT 10 s).length) ((aT 10 s).length)),(5,.slice ra out.length rc),(3,.pointer (some ⟨b1,0,none⟩))] w7:=by
    intro mm3
    induction mm3 using Nat.strongRecOn with
    | _ mm3 ih3 =>
    intro k w7 k0 k1 hK hbk S10 hm3
    refine J.c 8 [] [] [] 34 (k<(x.size:Int)) (fun fk3=>?_) fun fk3=>?_
    refine J.r 2 [] [(36,.int .i64 k),(35,.string x)] [] ?_
    have:=aS x (k).toNat
    refine J.ok (OK.byte 37 9 x k (aA x (k).toNat) kr kr om om (rfl))<|J.c0 0 [] [] [] S10 38 hb52 (plain_any (aA x (k).toNat) _) fun w8 S11=>J.b 2 [] [] [] 39 (aG (aA x (k).toNat)) (fun fk4=>?_) fun fk4=>?_
    exact J.wi 6 [true] [] [] 41 (k+1)<|J.t 4 (ih3 _ (show((x.size:Int)-(k+1)).toNat<mm3 from by omega) (k+1) w8 om om (lc_step hK i0 om om fk4) (bl_word hbk om om (.inl fk4)) S11 rfl)
    refine J.c 11 [false] [] [] 43 (k>i) (fun fk5=>?_) fun fk5=>?_
    refine J.r 1 [true] [] []<|J.drawPlan (fun w_=>Sep w (box b3 [.int .i64 (n+1),.int .i64 (i+1)] 32::aa lnE ra rc 63 1 out::box b2 ((aT 10 s).map Value.string) 9::box b1 [.int .i64 0,.int .i64 0] 32::tlF out) w_) [(0,true),(1,true),(2,true),(3,true),(4,true),(5,true),(6,true),(7,false),(8,false),(9,true)] S11 Tryz.mixed kr (bj (T:=[(0,some 47,256),(0,some 48,128),(0,some 49,512),(0,some 50,2048),(14,some 51,1970324836974592),(0,some 52,1024),(48,some 53,6755399441055744),(64,some 54,9007199254740992),(129,some 55,18155135997837312),(511,some 8,36028797018963968)]) kr kr) ?_
    intro w9 S12
    refine PB.mk (S12.erase 1)<|PL.take 0 47 (.slice la l.length lc) (fun _ _=>kr)<|PL.take 1 48 (.string x) (fun _ _=>kr)<|PL.take 2 49 (.int .i64 i) (fun _ _=>kr)<|PL.take 3 50 (.int .i64 k) (fun _ _=>kr)<|PL.takeOK 4 (fun w_ S_=>OK.sliceT 51 9 x (some (.int .i64 i)) (some (.int .i64 k)) ((i).toNat) ((k).toNat) kr kr (.inr ⟨_,_,rfl,om⟩) (.inr ⟨_,_,rfl,om⟩) oz oz) rfl<|PL.takeOK 5 (fun w_ S_=>OK.ldBox S_ 0 52 32 0 (.agg #[.int .i64 (n+1),.int .i64 (i+1)]) kr rfl kr) rfl<|PL.take 6 53 (.agg #[.int .i64 0,.string (x.extract ((i).toNat) ((k).toNat)),.int .i64 (n+1),.int .i64 (i+1)]) (fun _ _=>kr)<|PL.newSlice S12 54 1 [.int .i64 0,.string (x.extract ((i).toNat) ((k).toNat)),.int .i64 (n+1),.int .i64 (i+1)] 91 kr ?_
    intro b4 w10 S13
    refine PB.mk ((S13.erase 2).erase 0)<|PL.append tkE S13 2 l (⟨0,(x.extract ((i).toNat) ((k).toNat)),n+1,i+1⟩:Tk) 55 63 (.agg #[.int .i64 0,.string ByteArray.empty,.int .i64 0,.int .i64 0]) 40 ⟨b4,0,none⟩ 1 rfl kr kr kr kr dE (aU (S13.nth 0 rfl)) kr kr (⟨om,om⟩) ?_
    intro ra1 rc1 w11 S14
    replace S14:Sep w (box b4 [.int .i64 0,.string (x.extract ((i).toNat) ((k).toNat)),.int .i64 (n+1),.int .i64 (i+1)] 91::box b3 [.int .i64 (n+1),.int .i64 (i+1)] 32::aa tkE ra1 rc1 91 4 (l++[(⟨0,(x.extract ((i).toNat) ((k).toNat)),n+1,i+1⟩:Tk)])::aa lnE ra rc 63 1 out::box b2 ((aT 10 s).map Value.string) 9::box b1 [.int .i64 0,.int .i64 0] 32::tlF out) w11:=S14
    have S15:Sep w (box b3 [.int .i64 (n+1),.int .i64 (i+1)] 32::aa tkE ra1 rc1 91 4 (l++[(⟨0,(x.extract ((i).toNat) ((k).toNat)),n+1,i+1⟩:Tk)])::aa lnE ra rc 63 1 out::box b2 ((aT 10 s).map Value.string) 9::box b1 [.int .i64 0,.int .i64 0] 32::tlF out) w11:=S14.erase 0
    clear S14
    exact PB.mk (S15.erase 1)<|PL.take 9 8 (.slice ra1 ((l++[(⟨0,(x.extract ((i).toNat) ((k).toNat)),n+1,i+1⟩:Tk)]).length) rc1) (fun _ _=>kr)<|PL.done<|J.t 7 (ih2 _ (show((x.size:Int)-k).toNat<mm2 from by omega) ra1 rc1 (l++[(⟨0,(x.extract ((i).toNat) ((k).toNat)),n+1,i+1⟩:Tk)]) k w11 om om (by (try rw[List.length_append,List.length_singleton]);omega) (lc_word hK i0 om om (fun h_=>fk4)) (hbk) (S15.erase 0) rfl)
    refine J.r 5 [false] [(58,.int .i64 i),(57,.string x)] [] ?_
    have:=aS x (i).toNat
    refine J.ok (OK.byte 59 9 x i (aA x (i).toNat) kr kr om om (rfl))<|J.c 3 [] [] [] 56 ((aA x (i).toNat)=44) (fun fk6=>?_) fun fk6=>?_
    refine J.wi 5 [true] [] [] 62 (k+1)<|J.lb 4 [] [(63,.slice la l.length lc),(11,.int .i64 (k+1))] [] S11 0 rfl 64 (.agg #[.int .i64 (n+1),.int .i64 (i+1)])<|J.r 1 [] [(65,.agg #[.int .i64 0,.string ⟨#[44]⟩,.int .i64 (n+1),.int .i64 (i+1)])] []<|J.newSlice S11 66 1 [.int .i64 0,.string ⟨#[44]⟩,.int .i64 (n+1),.int .i64 (i+1)] 91 kr ?_
    intro b5 w12 S16
    refine J.append tkE S16 2 l (⟨0,⟨#[44]⟩,n+1,i+1⟩:Tk) 67 63 (.agg #[.int .i64 0,.string ByteArray.empty,.int .i64 0,.int .i64 0]) 40 ⟨b5,0,none⟩ 1 rfl kr kr kr kr dE (aU (S16.nth 0 rfl)) kr kr (⟨om,om⟩) ?_
    intro ra2 rc2 w13 S17
    replace S17:Sep w (box b5 [.int .i64 0,.string ⟨#[44]⟩,.int .i64 (n+1),.int .i64 (i+1)] 91::box b3 [.int .i64 (n+1),.int .i64 (i+1)] 32::aa tkE ra2 rc2 91 4 (l++[(⟨0,⟨#[44]⟩,n+1,i+1⟩:Tk)])::aa lnE ra rc 63 1 out::box b2 ((aT 10 s).map Value.string) 9::box b1 [.int .i64 0,.int .i64 0] 32::tlF out) w13:=S17
    exact J.t 9 (ih2 _ (show((x.size:Int)-(k+1)).toNat<mm2 from by omega) ra2 rc2 (l++[(⟨0,⟨#[44]⟩,n+1,i+1⟩:Tk)]) (k+1) w13 om om (by (try rw[List.length_append,List.length_singleton]);omega) (by rw[show k=i by omega];exact lc_comma hW i0 om om) (by rw[show k=i by omega];exact bl_word hb i0 om (.inr (.inl om))) ((S17.erase 0).erase 0) rfl)
    refine J.r 5 [false] [(70,.int .i64 i),(69,.string x)] [] ?_
    have:=aS x (i).toNat
    refine J.ok (OK.byte 71 9 x i (aA x (i).toNat) kr kr om om (rfl))<|J.c 3 [] [] [] 68 ((aA x (i).toNat)=32) (fun fk7=>?_) fun fk7=>?_
    exact J.wi 4 [true] [] [] 74 (k+1)<|J.t 9 (ih2 _ (show((x.size:Int)-(k+1)).toNat<mm2 from by omega) la lc l (k+1) w8 om om (by (try rw[List.length_append,List.length_singleton]);omega) (by rw[show k=i by omega];exact lc_blank hW i0 om om) (by rw[show k=i by omega];exact bl_word hb i0 om (.inr (.inr om))) (S11.erase 0) rfl)
    refine J.r 2 [false] [] []<|J.drawPlan (fun w_=>Sep w (box b3 [.int .i64 (n+1),.int .i64 (i+1)] 32::aa tkE la lc 91 4 l::aa lnE ra rc 63 1 out::box b2 ((aT 10 s).map Value.string) 9::tlF out) w_) [(0,true),(1,true),(2,false),(3,true)] S11 Tryz.mixed kr (bj (T:=[(0,some 42,1024),(0,some 2,0),(3,none,4398046511112),(7,some 4,0)]) kr kr) ?_
    intro w14 S18
    refine PB.mk (S18.erase 4)<|PL.takeOK 0 (fun w_ S_=>OK.ldBox S_ 0 42 32 0 (.agg #[.int .i64 (n+1),.int .i64 (i+1)]) kr rfl kr) rfl<|PL.take 1 2 (.slice none 0 0) (fun _ _=>kr)<|PL.stBox S18 4 32 0 (.agg #[.int .i64 (n+1),.int .i64 (i+1)]) [.int .i64 (n+1),.int .i64 (i+1)] (box b3 [.int .i64 (n+1),.int .i64 (i+1)] 32::aa tkE la lc 91 4 l::aa lnE ra rc 63 1 out::box b2 ((aT 10 s).map Value.string) 9::box b1 [.int .i64 (n+1),.int .i64 (i+1)] 32::tlF out) kr rfl kr kr rfl ?_
    intro w15 S19
    refine PB.mk (S19.erase 4)<|PL.take 3 4 (.bool false) (fun _ _=>kr)<|PL.done<|J.ret Tryz.f22 [.slice none 0 0,.agg #[.int .i64 (n+1),.int .i64 (i+1)],.bool false] func22 ⟨kr,⟨⟨b1,0,none⟩,kr,aI (S19.nth 4 rfl) kr⟩,kr,trivial⟩<|hR _ _ ?_
    obtain ⟨e1,e2,e3⟩:=okT_no (line_bad hB hx1 h0 om (bl_bad hb i0 om (by rw[← show k=i by omega];exact fk4) om om))
    exact⟨none,0,[],by rw[e1,e2,e3];rfl,(fun h_=>by rw[e1] at h_;cases h_),⟨(fun x hx=>by cases hx),by simp;omega⟩,S19.nil.nilRow 63 1⟩
    refine J.c 17 [false] [] [] 43 (k>i) (fun fk8=>?_) fun fk8=>?_
    refine J.r 1 [true] [] []<|J.drawPlan (fun w_=>Sep w (box b3 [.int .i64 (n+1),.int .i64 (i+1)] 32::aa lnE ra rc 63 1 out::box b2 ((aT 10 s).map Value.string) 9::box b1 [.int .i64 0,.int .i64 0] 32::tlF out) w_) [(0,true),(1,true),(2,true),(3,true),(4,true),(5,true),(6,true),(7,false),(8,false),(9,true)] S10 Tryz.mixed kr (bj (T:=[(0,some 47,256),(0,some 48,128),(0,some 49,512),(0,some 50,2048),(14,some 51,1970324836974592),(0,some 52,1024),(48,some 53,6755399441055744),(64,some 54,9007199254740992),(129,some 55,18155135997837312),(511,some 8,36028797018963968)]) kr kr) ?_
    intro w16 S20
    refine PB.mk (S20.erase 1)<|PL.take 0 47 (.slice la l.length lc) (fun _ _=>kr)<|PL.take 1 48 (.string x) (fun _ _=>kr)<|PL.take 2 49 (.int .i64 i) (fun _ _=>kr)<|PL.take 3 50 (.int .i64 k) (fun _ _=>kr)<|PL.takeOK 4 (fun w_ S_=>OK.sliceT 51 9 x (some (.int .i64 i)) (some (.int .i64 k)) ((i).toNat) ((k).toNat) kr kr (.inr ⟨_,_,rfl,om⟩) (.inr ⟨_,_,rfl,om⟩) oz oz) rfl<|PL.takeOK 5 (fun w_ S_=>OK.ldBox S_ 0 52 32 0 (.agg #[.int .i64 (n+1),.int .i64 (i+1)]) kr rfl kr) rfl<|PL.take 6 53 (.agg #[.int .i64 0,.string (x.extract ((i).toNat) ((k).toNat)),.int .i64 (n+1),.int .i64 (i+1)]) (fun _ _=>kr)<|PL.newSlice S20 54 1 [.int .i64 0,.string (x.extract ((i).toNat) ((k).toNat)),.int .i64 (n+1),.int .i64 (i+1)] 91 kr ?_
    intro b6 w17 S21
    refine PB.mk ((S21.erase 2).erase 0)<|PL.append tkE S21 2 l (⟨0,(x.extract ((i).toNat) ((k).toNat)),n+1,i+1⟩:Tk) 55 63 (.agg #[.int .i64 0,.string ByteArray.empty,.int .i64 0,.int .i64 0]) 40 ⟨b6,0,none⟩ 1 rfl kr kr kr kr dE (aU (S21.nth 0 rfl)) kr kr (⟨om,om⟩) ?_
    intro ra3 rc3 w18 S22
    replace S22:Sep w (box b6 [.int .i64 0,.string (x.extract ((i).toNat) ((k).toNat)),.int .i64 (n+1),.int .i64 (i+1)] 91::box b3 [.int .i64 (n+1),.int .i64 (i+1)] 32::aa tkE ra3 rc3 91 4 (l++[(⟨0,(x.extract ((i).toNat) ((k).toNat)),n+1,i+1⟩:Tk)])::aa lnE ra rc 63 1 out::box b2 ((aT 10 s).map Value.string) 9::box b1 [.int .i64 0,.int .i64 0] 32::tlF out) w18:=S22
    have S23:Sep w (box b3 [.int .i64 (n+1),.int .i64 (i+1)] 32::aa tkE ra3 rc3 91 4 (l++[(⟨0,(x.extract ((i).toNat) ((k).toNat)),n+1,i+1⟩:Tk)])::aa lnE ra rc 63 1 out::box b2 ((aT 10 s).map Value.string) 9::box b1 [.int .i64 0,.int .i64 0] 32::tlF out) w18:=S22.erase 0
    clear S22
    exact PB.mk (S23.erase 1)<|PL.take 9 8 (.slice ra3 ((l++[(⟨0,(x.extract ((i).toNat) ((k).toNat)),n+1,i+1⟩:Tk)]).length) rc3) (fun _ _=>kr)<|PL.done<|J.t 7 (ih2 _ (show((x.size:Int)-k).toNat<mm2 from by omega) ra3 rc3 (l++[(⟨0,(x.extract ((i).toNat) ((k).toNat)),n+1,i+1⟩:Tk)]) k w18 om om (by (try rw[List.length_append,List.length_singleton]);omega) (lc_word hK i0 om om (fun h_=>om)) (hbk) (S23.erase 0) rfl)
    refine J.r 5 [false] [(58,.int .i64 i),(57,.string x)] [] ?_
    have:=aS x (i).toNat
    refine J.ok (OK.byte 59 9 x i (aA x (i).toNat) kr kr om om (rfl))<|J.c 3 [] [] [] 56 ((aA x (i).toNat)=44) (fun fk9=>?_) fun fk9=>?_
    refine J.wi 5 [true] [] [] 62 (k+1)<|J.lb 4 [] [(63,.slice la l.length lc),(11,.int .i64 (k+1))] [] S10 0 rfl 64 (.agg #[.int .i64 (n+1),.int .i64 (i+1)])<|J.r 1 [] [(65,.agg #[.int .i64 0,.string ⟨#[44]⟩,.int .i64 (n+1),.int .i64 (i+1)])] []<|J.newSlice S10 66 1 [.int .i64 0,.string ⟨#[44]⟩,.int .i64 (n+1),.int .i64 (i+1)] 91 kr ?_
    intro b7 w19 S24
    refine J.append tkE S24 2 l (⟨0,⟨#[44]⟩,n+1,i+1⟩:Tk) 67 63 (.agg #[.int .i64 0,.string ByteArray.empty,.int .i64 0,.int .i64 0]) 40 ⟨b7,0,none⟩ 1 rfl kr kr kr kr dE (aU (S24.nth 0 rfl)) kr kr (⟨om,om⟩) ?_
    intro ra4 rc4 w20 S25
    replace S25:Sep w (box b7 [.int .i64 0,.string ⟨#[44]⟩,.int .i64 (n+1),.int .i64 (i+1)] 91::box b3 [.int .i64 (n+1),.int .i64 (i+1)] 32::aa tkE ra4 rc4 91 4 (l++[(⟨0,⟨#[44]⟩,n+1,i+1⟩:Tk)])::aa lnE ra rc 63 1 out::box b2 ((aT 10 s).map Value.string) 9::box b1 [.int .i64 0,.int .i64 0] 32::tlF out) w20:=S25
    exact J.t 9 (ih2 _ (show((x.size:Int)-(k+1)).toNat<mm2 from by omega) ra4 rc4 (l++[(⟨0,⟨#[44]⟩,n+1,i+1⟩:Tk)]) (k+1) w20 om om (by (try rw[List.length_append,List.length_singleton]);omega) (by rw[show k=i by omega];exact lc_comma hW i0 om om) (by rw[show k=i by omega];exact bl_word hb i0 om (.inr (.inl om))) ((S25.erase 0).erase 0) rfl)
    refine J.r 5 [false] [(70,.int .i64 i),(69,.string x)] [] ?_
    have:=aS x (i).toNat
    refine J.ok (OK.byte 71 9 x i (aA x (i).toNat) kr kr om om (rfl))<|J.c 3 [] [] [] 68 ((aA x (i).toNat)=32) (fun fk10=>?_) fun fk10=>?_
    exact J.wi 4 [true] [] [] 74 (k+1)<|J.t 9 (ih2 _ (show((x.size:Int)-(k+1)).toNat<mm2 from by omega) la lc l (k+1) w7 om om (by (try rw[List.length_append,List.length_singleton]);omega) (by rw[show k=i by omega];exact lc_blank hW i0 om om) (by rw[show k=i by omega];exact bl_word hb i0 om (.inr (.inr om))) (S10.erase 0) rfl)
    refine J.r 2 [false] [] []<|J.drawPlan (fun w_=>Sep w (box b3 [.int .i64 (n+1),.int .i64 (i+1)] 32::aa tkE la lc 91 4 l::aa lnE ra rc 63 1 out::box b2 ((aT 10 s).map Value.string) 9::tlF out) w_) [(0,true),(1,true),(2,false),(3,true)] S10 Tryz.mixed kr (bj (T:=[(0,some 42,1024),(0,some 2,0),(3,none,4398046511112),(7,some 4,0)]) kr kr) ?_
    intro w21 S26
    refine PB.mk (S26.erase 4)<|PL.takeOK 0 (fun w_ S_=>OK.ldBox S_ 0 42 32 0 (.agg #[.int .i64 (n+1),.int .i64 (i+1)]) kr rfl kr) rfl<|PL.take 1 2 (.slice none 0 0) (fun _ _=>kr)<|PL.stBox S26 4 32 0 (.agg #[.int .i64 (n+1),.int .i64 (i+1)]) [.int .i64 (n+1),.int .i64 (i+1)] (box b3 [.int .i64 (n+1),.int .i64 (i+1)] 32::aa tkE la lc 91 4 l::aa lnE ra rc 63 1 out::box b2 ((aT 10 s).map Value.string) 9::box b1 [.int .i64 (n+1),.int .i64 (i+1)] 32::tlF out) kr rfl kr kr rfl ?_
    intro w22 S27
    refine PB.mk (S27.erase 4)<|PL.take 3 4 (.bool false) (fun _ _=>kr)<|PL.done<|J.ret Tryz.f22 [.slice none 0 0,.agg #[.int .i64 (n+1),.int .i64 (i+1)],.bool false] func22 ⟨kr,⟨⟨b1,0,none⟩,kr,aI (S27.nth 4 rfl) kr⟩,kr,trivial⟩<|hR _ _ ?_
    exfalso;omega
   exact J.t 9 (L22_3 _ i w6 om om (lc_start hW) (hb) S9 rfl)
   refine J.c 8 [false] [] [] 78 ((l.length:Int)>0) (fun fk11=>?_) fun fk11=>?_
   refine J.r 4 [true] [(80,.slice la l.length lc),(79,.slice ra out.length rc)] []<|J.newSlice S7 81 1 [.slice la l.length lc] 63 kr ?_
   intro b8 w23 S28
   refine J.append lnE S28 2 out (⟨la,l.length,lc,l⟩:Ln) 82 60 (.slice none 0 0) 24 ⟨b8,0,none⟩ 1 rfl kr kr kr kr dE (aU (S28.nth 0 rfl)) kr kr (⟨om,om⟩) ?_
   intro ra5 rc5 w24 S29
   replace S29:Sep w (box b8 [.slice la l.length lc] 63::aa tkE la lc 91 4 l::aa lnE ra5 rc5 63 1 (out++[(⟨la,l.length,lc,l⟩:Ln)])::box b2 ((aT 10 s).map Value.string) 9::box b1 [.int .i64 0,.int .i64 0] 32::tlF out) w24:=S29
   have S30:Sep w (aa lnE ra5 rc5 63 1 (out++[(⟨la,l.length,lc,l⟩:Ln)])::box b2 ((aT 10 s).map Value.string) 9::box b1 [.int .i64 0,.int .i64 0] 32::aa tkE la lc 91 4 l::tlF out) w24:=(S29.erase 0).back 3
   have S31:Sep w (aa lnE ra5 rc5 63 1 (out++[(⟨la,l.length,lc,l⟩:Ln)])::box b2 ((aT 10 s).map Value.string) 9::box b1 [.int .i64 0,.int .i64 0] 32::tlF (out++[(⟨la,l.length,lc,l⟩:Ln)])) w24:=by rw[tlF_snoc];exact S30
   exact J.wi 5 [] [(5,.slice ra5 ((out++[(⟨la,l.length,lc,l⟩:Ln)]).length) rc5)] [] 83 (n+1)<|J.t 3 (ih1 _ (show(((aT 10 s).length:Int)-(n+1)).toNat<mm1 from by omega) ra5 rc5 (out++[(⟨la,l.length,lc,l⟩:Ln)]) (n+1) w24 om om (by (try rw[List.length_append,List.length_singleton]);omega) (by intro x hx;rcases List.mem_append.1 hx with hx | hx;(exact hnn x hx);(rw[List.mem_singleton.1 hx])) (wr_add (line_step hQ hx1 h0 om (lc_done hW om)) om rfl) (line_good hB hx1 h0 om (bl_done hb om)) S31 rfl)
   exact J.wi 5 [false] [] [] 83 (n+1)<|J.t 3 (ih1 _ (show(((aT 10 s).length:Int)-(n+1)).toNat<mm1 from by omega) ra rc out (n+1) w4 om om (by (try rw[List.length_append,List.length_singleton]);omega) (hnn) (wr_not (line_step hQ hx1 h0 om (lc_done hW om)) om) (line_good hB hx1 h0 om (bl_done hb om)) (S7.erase 0) rfl)
  exact J.t 14 (L22_2 _ none 0 ([]) 0 w3 om om (by simp) (rfl) (rfl) S6 rfl)
  refine J.sb 7 [false] [(2,.slice ra out.length rc)] [] S5 2 rfl [.int .i64 0,.int .i64 0] rfl fun w25 S32=>J.r 2 [] [(4,.bool true)] []<|J.ret Tryz.f22 [.slice ra out.length rc,.agg #[.int .i64 0,.int .i64 0],.bool true] func22 ⟨kr,⟨⟨b1,0,none⟩,kr,aI (S32.nth 2 rfl) kr⟩,kr,trivial⟩<|hR _ _ ?_
  obtain ⟨e1,e2,e3⟩:=okT_yes (lines_end hB om)
  exact⟨_,_,out,by rw[e1,e2,e3];rfl,(fun _=>lines_fin hQ om),⟨hnn,om⟩,((S32.erase 2).erase 1)⟩
 exact J.t 0 (L22_1 _ none 0 ([]) 0 w2 om om (by simp) (fun x hx=>by cases hx) (rfl) (rfl) S4 rfl)

end
end Go.Proofs.YtdneanhkcnfgdaaGreatDoor

