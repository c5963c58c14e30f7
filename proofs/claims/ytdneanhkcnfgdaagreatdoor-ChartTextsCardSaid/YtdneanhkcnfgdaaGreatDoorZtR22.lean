/- Walks of functions of this seat, printed by a program over the engine. Conditions: as each theorem says. -/
import Derived.Test.YtdneanhkcnfgdaaGreatDoorZtR21
import Derived.Test.YtdneanhkcnfgdaaGreatDoorZtEng10
import Derived.Test.YtdneanhkcnfgdaaGreatDoorZtEng15
set_option linter.unusedSimpArgs false
set_option linter.unusedVariables false
namespace Go.Proofs.YtdneanhkcnfgdaaGreatDoor
noncomputable section
open Go.Eng Go.RowKit Go.Proofs.Tryz
set_option maxRecDepth 20000
set_option maxHeartbeats 20000000
theorem hb48:aJ prog 48:=fun _ _=>by kernel_rfl

theorem cc_nil (b:Nat) (a:Option Addr) (n c:Nat) (w0:World) (L0:List Eng.Claim) (w:World) (S0:Sep w0 (box b [.pointer none,.slice a n c] 50::L0) w):Ret prog 48 #[.pointer (some ⟨b,0,none⟩)] w (fun v w'=>v=.tuple #[]∧Sep w0 (box b [.pointer (some ⟨b,0,none⟩),.slice a n c] 50::L0) w'):=by
 refine Ret.st (N:=20) func48 fun R hR _=>J.lb 5 [] [] [] S0 0 rfl 5 (.pointer none)<|J.r 6 [true] [(8,.pointer (some ⟨b,0,none⟩)),(7,.pointer (some ⟨b,0,none⟩))] []<|J.ok (OK.toUnsafe S0 0 9 47 101 50 rfl kr kr kr kr (Nat.succ_pos _))<|J.ok (OK.run 10 (.pointer (some ⟨b,0,none⟩)) kr)<|J.ok (OK.fromUnsafe S0 0 11 101 47 50 rfl kr kr kr kr kr)<|J.sb 2 [] [] [] S0 0 rfl [.pointer (some ⟨b,0,none⟩),.slice a n c] rfl fun w1 S1=>J.e 1 [] func48 (hR _ _ ?_)
 exact⟨rfl,S1⟩

theorem cc_self (b:Nat) (a:Option Addr) (n c:Nat) (w0:World) (L0:List Eng.Claim) (w:World) (S0:Sep w0 (box b [.pointer (some ⟨b,0,none⟩),.slice a n c] 50::L0) w):Ret prog 48 #[.pointer (some ⟨b,0,none⟩)] w (fun v w'=>v=.tuple #[]∧Sep w0 (box b [.pointer (some ⟨b,0,none⟩),.slice a n c] 50::L0) w'):=by
 refine Ret.st (N:=20) func48 fun R hR _=>J.lb 5 [] [] [] S0 0 rfl 5 (.pointer (some ⟨b,0,none⟩))<|J.lb 8 [false] [] [] S0 0 rfl 17 (.pointer (some ⟨b,0,none⟩))<|J.r 1 [] [(18,.pointer (some ⟨b,0,none⟩))] []<|J.ok (OK.neqSame 19 47 50 ⟨b,0,none⟩ kr kr kr kr)<|J.e 3 [] func48 (hR _ _ ?_)
 exact⟨rfl,S0⟩

theorem copycheck_any (b:Nat) (p:Option Addr) (a:Option Addr) (n c:Nat) (w0:World) (L0:List Eng.Claim) (w:World) (S0:Sep w0 (box b [.pointer p,.slice a n c] 50::L0) w) (hp:p=none∨p=some ⟨b,0,none⟩):Ret prog 48 #[.pointer (some ⟨b,0,none⟩)] w (fun v w'=>v=.tuple #[]∧Sep w0 (box b [.pointer (some ⟨b,0,none⟩),.slice a n c] 50::L0) w'):=by
  rcases hp with rfl|rfl
  · exact cc_nil b a n c w0 L0 w S0
  · exact cc_self b a n c w0 L0 w S0
theorem hb18:aJ prog 18:=fun _ _=>by kernel_rfl

theorem bm (b:Nat) (p:Option Addr) (a:Option Addr) (c:Nat) (x s:ByteArray) (w0:World) (L0:List Eng.Claim) (w:World) (S0:Sep w0 (box b [.pointer p,.slice a ((ls x).length) c] 50::aa ba a c 5 1 (ls x)::L0) w) (hp:p=none∨p=some ⟨b,0,none⟩) (hx:x.size+s.size≤140737488355328):Ret prog 18 #[.pointer (some ⟨b,0,none⟩),.string s] w (fun v w'=>v=.tuple #[.int .i64 (s.size:Int),.nilIface]∧∃ a' c',Sep w0 (box b [.pointer (some ⟨b,0,none⟩),.slice a' (ls (x++s)).length c'] 50::aa ba a' c' 5 1 (ls (x++s))::L0) w'):=by
 refine Ret.st (N:=19) func18 fun R hR _=>?_
 have hlx:=bf x
 refine J.r 8 [] [(6,.pointer (some ⟨b,0,none⟩))] [] ?_
 have S1:Sep w0 (box b [.pointer p,.slice a ((ls x).length) c] 50::aa ba a c 5 1 (ls x)::L0) w:=S0.front 0 rfl
 refine J.callF 7 48 #[.pointer (some ⟨b,0,none⟩)] hb48 kr (copycheck_any b p a ((ls x).length) c _ _ _ S1 (by first | assumption | exact .inl rfl | exact .inr rfl)) ?_
 rintro _ w1 ⟨rfl,S2⟩
 replace S2:Sep w0 (box b [.pointer (some ⟨b,0,none⟩),.slice a ((ls x).length) c] 50::aa ba a c 5 1 (ls x)::L0) w1:=S2
 refine J.lb 7 [] [(8,.pointer (some ⟨b,0,none⟩))] [] S2 0 rfl 12 (.slice a ((ls x).length) c)<|J.r 1 [] [(13,.string s)] []<|J.appStr S2 1 x s 14 48 9 rfl kr kr kr rF (by first | omega | (simp only[ByteArray.size_append];omega) | (simp only[ByteArray.size_append,lit_size,List.size_toArray,List.length_cons,List.length_nil];omega) | (simp;omega)) ?_
 intro ra1 rc1 w2 S3
 replace S3:Sep w0 (box b [.pointer (some ⟨b,0,none⟩),.slice a ((ls x).length) c] 50::aa ba ra1 rc1 5 1 (ls (x++s))::L0) w2:=S3
 refine J.sb 2 [] [] [] S3 0 rfl [.pointer (some ⟨b,0,none⟩),.slice ra1 ((ls (x++s)).length) rc1] rfl fun w3 S4=>J.e 8 [.int .i64 (s.size:Int),.nilIface] func18 (hR _ _ ?_)
 exact⟨rfl,_,_,S4⟩

theorem hb21:aJ prog 21:=fun _ _=>by kernel_rfl
theorem bstring_any (b:Nat) (p:Option Addr) (a:Option Addr) (c:Nat) (x:ByteArray) (w0:World) (L0:List Eng.Claim) (w:World) (S0:Sep w0 (box b [.pointer p,.slice a (ls x).length c] 50::aa ba a c 5 1 (ls x)::L0) w) (hp:p=none∨p=some ⟨b,0,none⟩) (ho:Offs 5 L0):Ret prog 21 #[.pointer (some ⟨b,0,none⟩)] w (fun v w'=>v=.string x∧Sep w0 L0 w') :=
  Ret.of_calls (Tryz.Builder_String_any_k w0.heap.size b (ls x) w (S0.builder hp) S0.below.size) fun w' h=>⟨congrArg Value.string (ls_inj (ls_mk _)),S0.others rfl ho h.2.1 h.2.2⟩
theorem hb20:aJ prog 20:=fun _ _=>by kernel_rfl
theorem itoa_any (n:Int) (w:World) (hn: -9223372036854775808≤n∧n≤9223372036854775807) (hW:TabW w):Ret prog 20 #[.int .i64 n] w (fun v w'=>v=.string (bL n)∧Sep w [] w') :=
  Ret.of_calls (Tryz.strconv_Itoa n hn.1 hn.2 w hW.1) fun w' ⟨k,os,e⟩=>⟨rfl,by subst e;exact .of_grow _ _ _⟩
theorem hb19:aJ prog 19:=fun _ _=>by kernel_rfl
theorem join_all (la:Option Addr) (len cap:Nat) (l:List ByteArray) (sep:ByteArray) (w:World) (hI:Ones Value.string w la len l) (hcap:len≤cap) (hN:len≤140737488355328) (hs:(bK l sep).size≤140737488355328) :
    Ret prog 19 #[.slice la len cap,.string sep] w (fun v w'=>v=.string (bK l sep)∧Sep w [] w'):=by
  have hll:=hI.len_eq
  by_cases h0:len=0
  · subst h0
    have hl:l=[]:=List.eq_nil_of_length_eq_zero hll
    subst hl
    exact Ret.of_calls (Tryz.strings_Join_none la cap sep w) fun w' e=>⟨rfl,by subst e;exact .refl _⟩
  · obtain ⟨p,rfl,hc⟩:=hI.at ByteArray.empty 0 om
    have hb:=World.block_lt_of_cell? _ _ hc
    obtain ⟨bk,o,sp⟩:=p
    have hsp:sp=none:=by
      cases sp with
      | none=>rfl
      | some x =>
        have hc2:w.cell? ⟨bk,o,some x⟩=some (Value.string (l.getD 0 ByteArray.empty)):=hc
        unfold World.cell? at hc2
        cases hh:w.heap[bk]? with
        | none=>simp only[hh] at hc2;cases hc2
        | some z =>
          cases z with
          | cells c e f=>simp only[hh,Option.isSome_some,if_true] at hc2;cases hc2
          | _=>simp only[hh] at hc2;cases hc2
    subst hsp;subst hll
    exact Ret.of_calls (Tryz.strings_Join bk o cap l sep w (fun j x hx=>by
      obtain ⟨q,hq,hcq⟩:=hI.cells j (Value.string x) (by rw[List.getElem?_map,hx];rfl)
      cases hq;rw[add_block] at hcq;exact hcq) hb hN hcap (by have h:(Lib.join (l.map (·.data.toList)) sep.data.toList).toArray.size≤140737488355328:=hs;rw[List.size_toArray] at h;exact h)) fun w' hb=>⟨rfl,.of_below hb⟩
theorem rn_round {m:Int} (h0:9<m) (s:ByteArray):Lib.decDigits m.toNat++ls s=Lib.decDigits (m/10).toNat++ls (bytesB [48+m%10]++s):=text_round om om s
theorem rn_last {n m:Int} {s:ByteArray} (hn:0≤n) (h0:0≤m) (h:¬ 9<m) (hd:Lib.decDigits n.toNat=Lib.decDigits m.toNat++ls s):bytesB [48+m]++s=bL n:=by
  have h1:=hd.trans (text_last h0 om s)
  rw[show m%10=m by omega] at h1
  exact text_pos om rfl h1
theorem aw (a b:ByteArray):(a++b).size=a.size+b.size:=ByteArray.size_append
theorem lapp (a b c:ByteArray):(a++b)++c=a++(b++c):=ByteArray.append_assoc
theorem hd_in {c:Cht} (h:¬ c.ay.length=0):((ByteArray.empty++(((⟨#[115,116,97,116,101,115,32]⟩:ByteArray)++bK c.aB (⟨#[44,32]⟩:ByteArray))++(⟨#[10]⟩:ByteArray)))++(((⟨#[105,110,112,117,116,115,32]⟩:ByteArray)++bK c.ay (⟨#[44,32]⟩:ByteArray))++(⟨#[10]⟩:ByteArray)))++(((⟨#[115,116,97,114,116,32]⟩:ByteArray)++c.aB.getD (c.av).toNat ByteArray.empty)++(⟨#[10]⟩:ByteArray))=hdT c:=by
  unfold hdT lsT;rw[if_neg h]
  apply ls_inj
  simp only[bl,List.append_assoc];rfl
theorem hd_no {c:Cht} (h:c.ay.length=0):(ByteArray.empty++(((⟨#[115,116,97,116,101,115,32]⟩:ByteArray)++bK c.aB (⟨#[44,32]⟩:ByteArray))++(⟨#[10]⟩:ByteArray)))++(((⟨#[115,116,97,114,116,32]⟩:ByteArray)++c.aB.getD (c.av).toNat ByteArray.empty)++(⟨#[10]⟩:ByteArray))=hdT c:=by
  unfold hdT lsT;rw[if_pos h]
  apply ls_inj
  simp only[bl,List.append_assoc];rfl
section
variable {c:Cht} {m:Mv} {t A:ByteArray} {l:List ByteArray} {j:Int}
theorem cdOn_go (h0:0≤j) (h:Int.fdiv m.gOn (2^(min j.toNat 64))%2=1):cdOn c m (j+1).toNat=cdOn c m j.toNat++[c.ay.getD j.toNat ByteArray.empty]:=by
  unfold cdOn;rw[cdL_succ h0,if_pos (show bitF m.gOn j=true from beq_iff_eq.2 h)];rfl
theorem cdOn_no (h0:0≤j) (h:¬ Int.fdiv m.gOn (2^(min j.toNat 64))%2=1):cdOn c m (j+1).toNat=cdOn c m j.toNat:=by
  unfold cdOn;rw[cdL_succ h0,if_neg (by rw[show bitF m.gOn j=false from beq_eq_false_iff_ne.2 h];decide)]
theorem cdOff_go (h0:0≤j) (h:Int.fdiv m.aN (2^(min j.toNat 64))%2=1):cdOff c m (j+1).toNat=cdOff c m j.toNat++[(⟨#[110,111,116,32]⟩:ByteArray)++c.ay.getD j.toNat ByteArray.empty]:=by
  unfold cdOff;rw[cdL_succ h0,if_pos (show bitF m.aN j=true from beq_iff_eq.2 h)];rfl
theorem cdOff_no (h0:0≤j) (h:¬ Int.fdiv m.aN (2^(min j.toNat 64))%2=1):cdOff c m (j+1).toNat=cdOff c m j.toNat:=by
  unfold cdOff;rw[cdL_succ h0,if_neg (by rw[show bitF m.aN j=false from beq_eq_false_iff_ne.2 h];decide)]
theorem bY {n:Nat} (h:l=cdOff c m j.toNat) (hj:j=(c.ay.length:Int)):cdM c m=l:=by rw[h,hj];rfl
abbrev toA (c:Cht) (m:Mv):ByteArray:=(c.aB.getD (m.aC).toNat ByteArray.empty++(⟨#[32,116,111,32]⟩:ByteArray))++c.aB.getD (m.gTo).toNat ByteArray.empty
theorem cdT_no (hl:cdM c m=l) (h:¬ 0<l.length):cdT (cdM c m)=ByteArray.empty:=by unfold cdT;rw[hl,if_pos om]
theorem cdT_yes (hl:cdM c m=l) (h:0<l.length):cdT (cdM c m)=(⟨#[32,105,102,32]⟩:ByteArray)++bK l (⟨#[44,32]⟩:ByteArray):=by unfold cdT;rw[hl,if_neg om];rfl
theorem afT_no (h:¬ m.ax>0):afT m=ByteArray.empty:=if_neg h
theorem afT_yes (h:m.ax>0):afT m=(⟨#[32,97,102,116,101,114,32]⟩:ByteArray)++bL m.ax:=if_pos h
theorem mv_00 (h1:cdT (cdM c m)=ByteArray.empty) (h2:afT m=ByteArray.empty):(t++toA c m)++(⟨#[10]⟩:ByteArray)=t++mvT c m:=by
  apply ls_inj;unfold mvT;rw[h1,h2];simp only[bl,List.append_assoc];rfl
theorem mv_10 {B:ByteArray} (h1:cdT (cdM c m)=B) (h2:afT m=ByteArray.empty):((t++toA c m)++B)++(⟨#[10]⟩:ByteArray)=t++mvT c m:=by
  apply ls_inj;unfold mvT;rw[h1,h2];simp only[bl,List.append_assoc];rfl
theorem mv_01 {C:ByteArray} (h1:cdT (cdM c m)=ByteArray.empty) (h2:afT m=C):((t++toA c m)++C)++(⟨#[10]⟩:ByteArray)=t++mvT c m:=by
  apply ls_inj;unfold mvT;rw[h1,h2];simp only[bl,List.append_assoc];rfl
theorem mv_11 {B C:ByteArray} (h1:cdT (cdM c m)=B) (h2:afT m=C):(((t++toA c m)++B)++C)++(⟨#[10]⟩:ByteArray)=t++mvT c m:=by
  apply ls_inj;unfold mvT;rw[h1,h2];simp only[bl,List.append_assoc];rfl
end

theorem hb6:aJ prog 6:=fun _ _=>by kernel_rfl
def K6_0:=adv 67 [false,true] (aY Tryz.f6)
def K6_1:=adv 14 [] (ci (adv 17 [true] K6_0))
def K6_2:=adv 17 [false] K6_1
def K6_3:=adv 60 [false,false] (aY Tryz.f6)
def K6_4:=adv 14 [] (ci (adv 17 [true] K6_3))
def K6_5:=adv 17 [false] K6_4
theorem text_any (c:Cht) (w:World) (hc:chtQ w c) (hW0:TabW w):Ret prog 6 #[.agg #[.slice c.al c.aj c.ao,.slice c.ak c.af c.am,.int .i64 c.av,.slice c.aq c.ai c.au]] w (fun v w'=>v=.tuple #[.string (txC c),.int .i64 (txE c)]∧Sep w [] w'):=by
 refine Ret.st (N:=119) func6 fun R hR S0=>?_
 obtain ⟨q1,q2,q3,q4,q5,q6,q7,q8,q9,q10,_⟩:=id hc
 have ql1:=q2.len_eq
 have ql2:=q5.len_eq
 have ql3:=q9.len_eq
 have hW:=hW0
 refine J.nw 2 [] [] [] S0 1 [.slice c.al c.aj c.ao,.slice c.ak c.af c.am,.int .i64 c.av,.slice c.aq c.ai c.au] 25 fun b1 w1 S1=>J.lb 6 [] [] [] S1 0 rfl 12 (.agg #[.slice c.al c.aj c.ao,.slice c.ak c.af c.am,.int .i64 c.av,.slice c.aq c.ai c.au])<|J.c0 0 [] [] [] S1 13 hb17 (valid_any c _ (bX hc S1)) fun w2 S2=>J.bn 2 [] [] [] 14 (aM c) (fun fk1=>?_) fun fk1=>?_
 have hv:=fk1
 have hvf:=cr hv
 have hvn:=fun k=>ce (aZ hv).1 k
 have hvi:=fun k=>ce (aZ hv).2 k
 have hx0:=hvn (c.av).toNat
 refine J.nw 4 [false] [] [] S2 4 [.pointer none,.slice none 0 0] 50 fun b2 w3 S3=>J.lb 4 [] [] [] S3 1 rfl 16 (.slice c.al c.aj c.ao)<|J.c0 0 [] [] [] S3 17 hb19 (join_all c.al c.aj c.ao c.aB (⟨#[44,32]⟩:ByteArray) _ (q2.sep S3) om om (Nat.le_trans (join_room (k:=24) (n:=20) (ch (aZ hv).1) (show c.aB.length≤20 by omega)) dE)) fun w4 S4=>?_
 have:=(join_room (k:=24) (n:=20) (ch (aZ hv).1) (show c.aB.length≤20 by omega))
 obtain ⟨tt1,htt1⟩:∃ y:ByteArray,y=(⟨#[115,116,97,116,101,115,32]⟩:ByteArray)++(bK c.aB (⟨#[44,32]⟩:ByteArray)):=⟨_,rfl⟩
 have hstt1:tt1.size=7+(bK c.aB (⟨#[44,32]⟩:ByteArray)).size:=by rw[htt1];exact aw _ _
 refine J.ok (OK.cat 18 (⟨#[115,116,97,116,101,115,32]⟩:ByteArray) (bK c.aB (⟨#[44,32]⟩:ByteArray)) tt1 kr (by rw[← aw,← htt1];omega) (htt1.symm)) ?_
 obtain ⟨tt2,htt2⟩:∃ y:ByteArray,y=tt1++(⟨#[10]⟩:ByteArray):=⟨_,rfl⟩
 have hstt2:tt2.size=tt1.size+1:=by rw[htt2];exact aw _ _
 refine J.ok (OK.cat 19 tt1 (⟨#[10]⟩:ByteArray) tt2 kr (by rw[← aw,← htt2];omega) (htt2.symm)) ?_
 have S5:Sep w [aa ba none 0 5 1 (ls ByteArray.empty),box b2 [.pointer none,.slice none 0 0] 50,box b1 [.slice c.al c.aj c.ao,.slice c.ak c.af c.am,.int .i64 c.av,.slice c.aq c.ai c.au] 25] w4:=S4.nilRow 5 1
 have S6:=S5.front 0 rfl
 have S7:Sep w [box b2 [.pointer none,.slice none 0 0] 50,aa ba none 0 5 1 (ls ByteArray.empty),box b1 [.slice c.al c.aj c.ao,.slice c.ak c.af c.am,.int .i64 c.av,.slice c.aq c.ai c.au] 25] w4:=S6.front 1 rfl
 have hz0:ByteArray.empty.size=0:=rfl
 refine J.callF 20 18 #[.pointer (some ⟨b2,0,none⟩),.string tt2] hb18 kr (bm b2 none none 0 ByteArray.empty tt2 _ _ _ S7 (by first | assumption | exact .inl rfl | exact .inr rfl) om) ?_
 obtain ⟨tt3,htt3⟩:∃ y:ByteArray,y=ByteArray.empty++tt2:=⟨_,rfl⟩
 have hstt3:tt3.size=0+tt2.size:=by rw[htt3];exact aw _ _
 rintro _ w5 ⟨rfl,ra1,rc1,S8⟩
 rw[show ByteArray.empty++tt2=tt3 from htt3.symm] at S8
 replace S8:Sep w [box b2 [.pointer (some ⟨b2,0,none⟩),.slice ra1 ((ls tt3).length) rc1] 50,aa ba ra1 rc1 5 1 (ls tt3),box b1 [.slice c.al c.aj c.ao,.slice c.ak c.af c.am,.int .i64 c.av,.slice c.aq c.ai c.au] 25] w5:=S8
 have S9:Sep w [aa ba ra1 rc1 5 1 (ls tt3),box b2 [.pointer (some ⟨b2,0,none⟩),.slice ra1 ((ls tt3).length) rc1] 50,box b1 [.slice c.al c.aj c.ao,.slice c.ak c.af c.am,.int .i64 c.av,.slice c.aq c.ai c.au] 25] w5:=S8.front 1 rfl
 refine J.lb 5 [] [] [] S9 2 rfl 22 (.slice c.ak c.af c.am)<|J.c 3 [] [] [] 24 ((c.af:Int)>0) (fun fk2=>?_) fun fk2=>?_
 refine J.lb 3 [true] [] [] S9 2 rfl 26 (.slice c.ak c.af c.am)<|J.c0 0 [] [] [] S9 27 hb19 (join_all c.ak c.af c.am c.ay (⟨#[44,32]⟩:ByteArray) _ (q5.sep S9) om om (Nat.le_trans (join_room (k:=24) (n:=10) (ch (aZ hv).2) (show c.ay.length≤10 by omega)) dE)) fun w6 S10=>?_
 have:=(join_room (k:=24) (n:=10) (ch (aZ hv).2) (show c.ay.length≤10 by omega))
 obtain ⟨tt4,htt4⟩:∃ y:ByteArray,y=(⟨#[105,110,112,117,116,115,32]⟩:ByteArray)++(bK c.ay (⟨#[44,32]⟩:ByteArray)):=⟨_,rfl⟩
 have hstt4:tt4.size=7+(bK c.ay (⟨#[44,32]⟩:ByteArray)).size:=by rw[htt4];exact aw _ _
 refine J.ok (OK.cat 28 (⟨#[105,110,112,117,116,115,32]⟩:ByteArray) (bK c.ay (⟨#[44,32]⟩:ByteArray)) tt4 kr (by rw[← aw,← htt4];omega) (htt4.symm)) ?_
 obtain ⟨tt5,htt5⟩:∃ y:ByteArray,y=tt4++(⟨#[10]⟩:ByteArray):=⟨_,rfl⟩
 have hstt5:tt5.size=tt4.size+1:=by rw[htt5];exact aw _ _
 refine J.ok (OK.cat 29 tt4 (⟨#[10]⟩:ByteArray) tt5 kr (by rw[← aw,← htt5];omega) (htt5.symm)) ?_
 have S11:=S10.front 0 rfl
 have S12:Sep w [box b2 [.pointer (some ⟨b2,0,none⟩),.slice ra1 ((ls tt3).length) rc1] 50,aa ba ra1 rc1 5 1 (ls tt3),box b1 [.slice c.al c.aj c.ao,.slice c.ak c.af c.am,.int .i64 c.av,.slice c.aq c.ai c.au] 25] w6:=S11.front 1 rfl
 refine J.callF 30 18 #[.pointer (some ⟨b2,0,none⟩),.string tt5] hb18 kr (bm b2 (some ⟨b2,0,none⟩) ra1 rc1 tt3 tt5 _ _ _ S12 (by first | assumption | exact .inl rfl | exact .inr rfl) om) ?_
 obtain ⟨tt6,htt6⟩:∃ y:ByteArray,y=tt3++tt5:=⟨_,rfl⟩
 have hstt6:tt6.size=tt3.size+tt5.size:=by rw[htt6];exact aw _ _
 rintro _ w7 ⟨rfl,ra2,rc2,S13⟩
 rw[show tt3++tt5=tt6 from htt6.symm] at S13
 replace S13:Sep w [box b2 [.pointer (some ⟨b2,0,none⟩),.slice ra2 ((ls tt6).length) rc2] 50,aa ba ra2 rc2 5 1 (ls tt6),box b1 [.slice c.al c.aj c.ao,.slice c.ak c.af c.am,.int .i64 c.av,.slice c.aq c.ai c.au] 25] w7:=S13
 have S14:Sep w [aa ba ra2 rc2 5 1 (ls tt6),box b2 [.pointer (some ⟨b2,0,none⟩),.slice ra2 ((ls tt6).length) rc2] 50,box b1 [.slice c.al c.aj c.ao,.slice c.ak c.af c.am,.int .i64 c.av,.slice c.aq c.ai c.au] 25] w7:=S13.front 1 rfl
 refine J.lb 4 [] [] [] S14 2 rfl 32 (.slice c.al c.aj c.ao)<|J.lb 1 [] [] [] S14 2 rfl 34 (.int .i64 c.av) ?_
 obtain ⟨p1,hp1,hc1⟩:=q2.at ByteArray.empty (c.av).toNat om
 have hel1:=bu q3 ByteArray.empty (n:=(c.av).toNat) (by have:=q2.len_eq;omega)
 refine J.ok (OK.index 35 22 1 c.al p1 c.aj (c.av).toNat c.av (p1.add (c.av).toNat) kr kr hp1 om om nO)<|J.ok (OK.ldCell 36 9 (p1.add (c.av).toNat) (.string (c.aB.getD (c.av).toNat ByteArray.empty)) kr kr (S14.cell hc1)) ?_
 obtain ⟨tt7,htt7⟩:∃ y:ByteArray,y=(⟨#[115,116,97,114,116,32]⟩:ByteArray)++(c.aB.getD (c.av).toNat ByteArray.empty):=⟨_,rfl⟩
 have hstt7:tt7.size=6+(c.aB.getD (c.av).toNat ByteArray.empty).size:=by rw[htt7];exact aw _ _
 refine J.ok (OK.cat 37 (⟨#[115,116,97,114,116,32]⟩:ByteArray) (c.aB.getD (c.av).toNat ByteArray.empty) tt7 kr (by rw[← aw,← htt7];omega) (htt7.symm)) ?_
 obtain ⟨tt8,htt8⟩:∃ y:ByteArray,y=tt7++(⟨#[10]⟩:ByteArray):=⟨_,rfl⟩
 have hstt8:tt8.size=tt7.size+1:=by rw[htt8];exact aw _ _
 refine J.ok (OK.cat 38 tt7 (⟨#[10]⟩:ByteArray) tt8 kr (by rw[← aw,← htt8];omega) (htt8.symm)) ?_
 have S15:=S14.front 0 rfl
 have S16:Sep w [box b2 [.pointer (some ⟨b2,0,none⟩),.slice ra2 ((ls tt6).length) rc2] 50,aa ba ra2 rc2 5 1 (ls tt6),box b1 [.slice c.al c.aj c.ao,.slice c.ak c.af c.am,.int .i64 c.av,.slice c.aq c.ai c.au] 25] w7:=S15.front 1 rfl
 refine J.callF 39 18 #[.pointer (some ⟨b2,0,none⟩),.string tt8] hb18 kr (bm b2 (some ⟨b2,0,none⟩) ra2 rc2 tt6 tt8 _ _ _ S16 (by first | assumption | exact .inl rfl | exact .inr rfl) om) ?_
 obtain ⟨tt9,htt9⟩:∃ y:ByteArray,y=tt6++tt8:=⟨_,rfl⟩
 have hstt9:tt9.size=tt6.size+tt8.size:=by rw[htt9];exact aw _ _
 rintro _ w8 ⟨rfl,ra3,rc3,S17⟩
 rw[show tt6++tt8=tt9 from htt9.symm] at S17
 replace S17:Sep w [box b2 [.pointer (some ⟨b2,0,none⟩),.slice ra3 ((ls tt9).length) rc3] 50,aa ba ra3 rc3 5 1 (ls tt9),box b1 [.slice c.al c.aj c.ao,.slice c.ak c.af c.am,.int .i64 c.av,.slice c.aq c.ai c.au] 25] w8:=S17
 have S18:Sep w [aa ba ra3 rc3 5 1 (ls tt9),box b2 [.pointer (some ⟨b2,0,none⟩),.slice ra3 ((ls tt9).length) rc3] 50,box b1 [.slice c.al c.aj c.ao,.slice c.ak c.af c.am,.int .i64 c.av,.slice c.aq c.ai c.au] 25] w8:=S17.front 1 rfl
 refine J.lb 5 [] [] [] S18 2 rfl 41 (.slice c.aq c.ai c.au) ?_
 have L6_1:∀ (mm_:Nat) (ra:Option Addr) (rc:Nat) (t:ByteArray) (i:Int) (w9:World),(0≤i)→(i≤(c.ai:Int))→(t=mvsT c (i).toNat)→Sep w [aa ba ra rc 5 1 (ls t),box b2 [.pointer (some ⟨b2,0,none⟩),.slice ra ((ls t).length) rc] 50,box b1 [.slice c.al c.aj c.ao,.slice c.ak c.af c.am,.int .i64 c.av,.slice c.aq c.ai c.au] 25] w9→((c.ai:Int)-i).toNat=mm_→J prog 6 119 R K6_0 [(43,.int .i64 i),(42,.int .i64 (c.ai:Int)),(41,.slice c.aq c.ai c.au),(4,.pointer (some ⟨b2,0,none⟩)),(1,.pointer (some ⟨b1,0,none⟩))] w9:=by
  intro mm1
  induction mm1 using Nat.strongRecOn with
  | _ mm1 ih1 =>
  intro ra rc t i w9 h0 h1 ht S19 hm1
  have hts:=mvs_room hv om om (fun k hk=>(mv_at hv hk).2.2) i.toNat om
  rw[← ht] at hts
  skip
  refine J.c 5 [] [] [] 44 (i<(c.ai:Int)) (fun fk3=>?_) fun fk3=>?_
  have hma:=mv_at hv (k:=i.toNat) om
  have hx1:=hvn ((c.ab.getD (i).toNat (⟨0,0,0,0,0⟩:Mv)).aC).toNat
  have hx2:=hvn ((c.ab.getD (i).toNat (⟨0,0,0,0,0⟩:Mv)).gTo).toNat
  have hx3:=bE (n:=(c.ab.getD (i).toNat (⟨0,0,0,0,0⟩:Mv)).ax) om
  refine J.r 6 [true] [] [] ?_
  obtain ⟨p2,hp2,hc2⟩:=q9.at (⟨0,0,0,0,0⟩:Mv) (i).toNat om
  have hel2:=bu q10 (⟨0,0,0,0,0⟩:Mv) (n:=(i).toNat) (by have:=q9.len_eq;omega)
  obtain ⟨q11,q12,q13,q14,q15,_⟩:=id hel2
  refine J.ok (OK.index 45 23 5 c.aq p2 c.ai (i).toNat i (p2.add ((i).toNat*5)) kr kr hp2 om om rfl)<|J.ok (OK.ldCells 46 57 (p2.add ((i).toNat*5)) [.int .i64 ((c.ab.getD (i).toNat (⟨0,0,0,0,0⟩:Mv)).aC),.int .i64 ((c.ab.getD (i).toNat (⟨0,0,0,0,0⟩:Mv)).gTo),.int .i64 ((c.ab.getD (i).toNat (⟨0,0,0,0,0⟩:Mv)).gOn),.int .i64 ((c.ab.getD (i).toNat (⟨0,0,0,0,0⟩:Mv)).aN),.int .i64 ((c.ab.getD (i).toNat (⟨0,0,0,0,0⟩:Mv)).ax)] kr kr kr (fun j_ v_ hj_=>S19.cell (hc2 j_ v_ hj_)))<|J.nw 0 [] [] [] S19 6 [.int .i64 0,.int .i64 0,.int .i64 0,.int .i64 0,.int .i64 0] 57 fun b3 w10 S20=>J.sb 0 [] [] [] S20 0 rfl [.int .i64 ((c.ab.getD (i).toNat (⟨0,0,0,0,0⟩:Mv)).aC),.int .i64 ((c.ab.getD (i).toNat (⟨0,0,0,0,0⟩:Mv)).gTo),.int .i64 ((c.ab.getD (i).toNat (⟨0,0,0,0,0⟩:Mv)).gOn),.int .i64 ((c.ab.getD (i).toNat (⟨0,0,0,0,0⟩:Mv)).aN),.int .i64 ((c.ab.getD (i).toNat (⟨0,0,0,0,0⟩:Mv)).ax)] rfl fun w11 S21=>J.r 2 [] [] [] ?_
  obtain ⟨p3,hp3,hc3⟩:=q2.at ByteArray.empty ((c.ab.getD (i).toNat (⟨0,0,0,0,0⟩:Mv)).aC).toNat om
  have hel3:=bu q3 ByteArray.empty (n:=((c.ab.getD (i).toNat (⟨0,0,0,0,0⟩:Mv)).aC).toNat) (by have:=q2.len_eq;omega)
  obtain ⟨p4,hp4,hc4⟩:=q2.at ByteArray.empty ((c.ab.getD (i).toNat (⟨0,0,0,0,0⟩:Mv)).gTo).toNat om
  have hel4:=bu q3 ByteArray.empty (n:=((c.ab.getD (i).toNat (⟨0,0,0,0,0⟩:Mv)).gTo).toNat) (by have:=q2.len_eq;omega)
  refine J.drawTail S21 14 Tryz.mixed kr kr ?_
  intro w12 S22
  refine SL.r 47 (.pointer (some ⟨b1,0,none⟩))<|SL.lb S22 3 rfl 48 (.slice c.al c.aj c.ao)<|SL.r 49 (.pointer (some ⟨b3,0,none⟩))<|SL.lb S22 0 rfl 50 (.int .i64 ((c.ab.getD (i).toNat (⟨0,0,0,0,0⟩:Mv)).aC))<|SL.ok dE (OK.index 51 22 1 c.al p3 c.aj ((c.ab.getD (i).toNat (⟨0,0,0,0,0⟩:Mv)).aC).toNat ((c.ab.getD (i).toNat (⟨0,0,0,0,0⟩:Mv)).aC) (p3.add ((c.ab.getD (i).toNat (⟨0,0,0,0,0⟩:Mv)).aC).toNat) kr kr hp3 om om nO)<|SL.ok dE (OK.ldCell 52 9 (p3.add ((c.ab.getD (i).toNat (⟨0,0,0,0,0⟩:Mv)).aC).toNat) (.string (c.aB.getD ((c.ab.getD (i).toNat (⟨0,0,0,0,0⟩:Mv)).aC).toNat ByteArray.empty)) kr kr (S22.cell hc3)) ?_
  obtain ⟨tt10,htt10⟩:∃ y:ByteArray,y=(c.aB.getD ((c.ab.getD (i).toNat (⟨0,0,0,0,0⟩:Mv)).aC).toNat ByteArray.empty)++(⟨#[32,116,111,32]⟩:ByteArray):=⟨_,rfl⟩
  have hstt10:tt10.size=(c.aB.getD ((c.ab.getD (i).toNat (⟨0,0,0,0,0⟩:Mv)).aC).toNat ByteArray.empty).size+4:=by rw[htt10];exact aw _ _
  refine SL.ok dE (OK.cat 53 (c.aB.getD ((c.ab.getD (i).toNat (⟨0,0,0,0,0⟩:Mv)).aC).toNat ByteArray.empty) (⟨#[32,116,111,32]⟩:ByteArray) tt10 kr (by rw[← aw,← htt10];omega) (htt10.symm))<|SL.r 54 (.pointer (some ⟨b1,0,none⟩))<|SL.lb S22 3 rfl 55 (.slice c.al c.aj c.ao)<|SL.r 56 (.pointer (some ⟨b3,1,none⟩))<|SL.lb S22 0 rfl 57 (.int .i64 ((c.ab.getD (i).toNat (⟨0,0,0,0,0⟩:Mv)).gTo))<|SL.ok dE (OK.index 58 22 1 c.al p4 c.aj ((c.ab.getD (i).toNat (⟨0,0,0,0,0⟩:Mv)).gTo).toNat ((c.ab.getD (i).toNat (⟨0,0,0,0,0⟩:Mv)).gTo) (p4.add ((c.ab.getD (i).toNat (⟨0,0,0,0,0⟩:Mv)).gTo).toNat) kr kr hp4 om om nO)<|SL.ok dE (OK.ldCell 59 9 (p4.add ((c.ab.getD (i).toNat (⟨0,0,0,0,0⟩:Mv)).gTo).toNat) (.string (c.aB.getD ((c.ab.getD (i).toNat (⟨0,0,0,0,0⟩:Mv)).gTo).toNat ByteArray.empty)) kr kr (S22.cell hc4)) ?_
  obtain ⟨tt11,htt11⟩:∃ y:ByteArray,y=tt10++(c.aB.getD ((c.ab.getD (i).toNat (⟨0,0,0,0,0⟩:Mv)).gTo).toNat ByteArray.empty):=⟨_,rfl⟩
  have hstt11:tt11.size=tt10.size+(c.aB.getD ((c.ab.getD (i).toNat (⟨0,0,0,0,0⟩:Mv)).gTo).toNat ByteArray.empty).size:=by rw[htt11];exact aw _ _
  refine SL.ok dE (OK.cat 60 tt10 (c.aB.getD ((c.ab.getD (i).toNat (⟨0,0,0,0,0⟩:Mv)).gTo).toNat ByteArray.empty) tt11 kr (by rw[← aw,← htt11];omega) (htt11.symm))<|SL.done ?_
  have S23:=S22.front 1 rfl
  clear S22
  have S24:Sep w [box b2 [.pointer (some ⟨b2,0,none⟩),.slice ra ((ls t).length) rc] 50,aa ba ra rc 5 1 (ls t),box b3 [.int .i64 ((c.ab.getD (i).toNat (⟨0,0,0,0,0⟩:Mv)).aC),.int .i64 ((c.ab.getD (i).toNat (⟨0,0,0,0,0⟩:Mv)).gTo),.int .i64 ((c.ab.getD (i).toNat (⟨0,0,0,0,0⟩:Mv)).gOn),.int .i64 ((c.ab.getD (i).toNat (⟨0,0,0,0,0⟩:Mv)).aN),.int .i64 ((c.ab.getD (i).toNat (⟨0,0,0,0,0⟩:Mv)).ax)] 57,box b1 [.slice c.al c.aj c.ao,.slice c.ak c.af c.am,.int .i64 c.av,.slice c.aq c.ai c.au] 25] w12:=S23.front 2 rfl
  clear S23
  refine TL.callF 61 18 #[.pointer (some ⟨b2,0,none⟩),.string tt11] hb18 kr (bm b2 (some ⟨b2,0,none⟩) ra rc t tt11 _ _ _ S24 (by first | assumption | exact .inl rfl | exact .inr rfl) om) ?_
  obtain ⟨tt12,htt12⟩:∃ y:ByteArray,y=t++tt11:=⟨_,rfl⟩
  have hstt12:tt12.size=t.size+tt11.size:=by rw[htt12];exact aw _ _
  rintro _ w13 ⟨rfl,ra4,rc4,S25⟩
  rw[show t++tt11=tt12 from htt12.symm] at S25
  replace S25:Sep w [box b2 [.pointer (some ⟨b2,0,none⟩),.slice ra4 ((ls tt12).length) rc4] 50,aa ba ra4 rc4 5 1 (ls tt12),box b3 [.int .i64 ((c.ab.getD (i).toNat (⟨0,0,0,0,0⟩:Mv)).aC),.int .i64 ((c.ab.getD (i).toNat (⟨0,0,0,0,0⟩:Mv)).gTo),.int .i64 ((c.ab.getD (i).toNat (⟨0,0,0,0,0⟩:Mv)).gOn),.int .i64 ((c.ab.getD (i).toNat (⟨0,0,0,0,0⟩:Mv)).aN),.int .i64 ((c.ab.getD (i).toNat (⟨0,0,0,0,0⟩:Mv)).ax)] 57,box b1 [.slice c.al c.aj c.ao,.slice c.ak c.af c.am,.int .i64 c.av,.slice c.aq c.ai c.au] 25] w13:=S25
  have S26:=S25.front 1 rfl
  clear S25
  have S27:Sep w [box b3 [.int .i64 ((c.ab.getD (i).toNat (⟨0,0,0,0,0⟩:Mv)).aC),.int .i64 ((c.ab.getD (i).toNat (⟨0,0,0,0,0⟩:Mv)).gTo),.int .i64 ((c.ab.getD (i).toNat (⟨0,0,0,0,0⟩:Mv)).gOn),.int .i64 ((c.ab.getD (i).toNat (⟨0,0,0,0,0⟩:Mv)).aN),.int .i64 ((c.ab.getD (i).toNat (⟨0,0,0,0,0⟩:Mv)).ax)] 57,aa ba ra4 rc4 5 1 (ls tt12),box b2 [.pointer (some ⟨b2,0,none⟩),.slice ra4 ((ls tt12).length) rc4] 50,box b1 [.slice c.al c.aj c.ao,.slice c.ak c.af c.am,.int .i64 c.av,.slice c.aq c.ai c.au] 25] w13:=S26.front 2 rfl
  clear S26
  refine TL.done kr<|J.lb 8 [] [(7,.slice none 0 0)] [] S27 3 rfl 63 (.slice c.ak c.af c.am) ?_
  have S28:Sep w [aa (ah Value.string) none 0 9 1 ([]),box b3 [.int .i64 ((c.ab.getD (i).toNat (⟨0,0,0,0,0⟩:Mv)).aC),.int .i64 ((c.ab.getD (i).toNat (⟨0,0,0,0,0⟩:Mv)).gTo),.int .i64 ((c.ab.getD (i).toNat (⟨0,0,0,0,0⟩:Mv)).gOn),.int .i64 ((c.ab.getD (i).toNat (⟨0,0,0,0,0⟩:Mv)).aN),.int .i64 ((c.ab.getD (i).toNat (⟨0,0,0,0,0⟩:Mv)).ax)] 57,aa ba ra4 rc4 5 1 (ls tt12),box b2 [.pointer (some ⟨b2,0,none⟩),.slice ra4 ((ls tt12).length) rc4] 50,box b1 [.slice c.al c.aj c.ao,.slice c.ak c.af c.am,.int .i64 c.av,.slice c.aq c.ai c.au] 25] w13:=S27.nilRow 9 1
  have L6_2:∀ (mm_:Nat) (ca:Option Addr) (cc:Nat) (cl:List ByteArray) (j:Int) (w14:World),(0≤j)→(j≤(c.af:Int))→((cl).length≤(j).toNat)→(cl=cdOn c (c.ab.getD (i).toNat (⟨0,0,0,0,0⟩:Mv)) (j).toNat)→Sep w [aa (ah Value.string) ca cc 9 1 cl,box b3 [.int .i64 ((c.ab.getD (i).toNat (⟨0,0,0,0,0⟩:Mv)).aC),.int .i64 ((c.ab.getD (i).toNat (⟨0,0,0,0,0⟩:Mv)).gTo),.int .i64 ((c.ab.getD (i).toNat (⟨0,0,0,0,0⟩:Mv)).gOn),.int .i64 ((c.ab.getD (i).toNat (⟨0,0,0,0,0⟩:Mv)).aN),.int .i64 ((c.ab.getD (i).toNat (⟨0,0,0,0,0⟩:Mv)).ax)] 57,aa ba ra4 rc4 5 1 (ls tt12),box b2 [.pointer (some ⟨b2,0,none⟩),.slice ra4 ((ls tt12).length) rc4] 50,box b1 [.slice c.al c.aj c.ao,.slice c.ak c.af c.am,.int .i64 c.av,.slice c.aq c.ai c.au] 25] w14→((c.af:Int)-j).toNat=mm_→J prog 6 119 R K6_1 [(65,.int .i64 j),(64,.int .i64 (c.af:Int)),(63,.slice c.ak c.af c.am),(7,.slice ca cl.length cc),(6,.pointer (some ⟨b3,0,none⟩)),(43,.int .i64 i),(42,.int .i64 (c.ai:Int)),(41,.slice c.aq c.ai c.au),(4,.pointer (some ⟨b2,0,none⟩)),(1,.pointer (some ⟨b1,0,none⟩))] w14:=by
   intro mm2
   induction mm2 using Nat.strongRecOn with
   | _ mm2 ih2 =>
   intro ca cc cl j w14 j0 j1 jl hcl S29 hm2
   refine J.c 5 [] [] [] 66 (j<(c.af:Int)) (fun fk4=>?_) fun fk4=>?_
   have hx4:=hvi j.toNat
   refine J.r 7 [true] [(67,.int .i64 j)] [] ?_
   obtain ⟨p5,hp5,hc5⟩:=q5.at ByteArray.empty (j).toNat om
   have hel5:=bu q6 ByteArray.empty (n:=(j).toNat) (by have:=q5.len_eq;omega)
   refine J.ok (OK.index 68 22 1 c.ak p5 c.af (j).toNat j (p5.add (j).toNat) kr kr hp5 om om nO)<|J.ok (OK.ldCell 69 9 (p5.add (j).toNat) (.string (c.ay.getD (j).toNat ByteArray.empty)) kr kr (S29.cell hc5))<|J.lb 6 [] [(9,.string (c.ay.getD (j).toNat ByteArray.empty)),(8,.int .i64 j)] [] S29 1 rfl 71 (.int .i64 ((c.ab.getD (i).toNat (⟨0,0,0,0,0⟩:Mv)).gOn))<|J.r 1 [] [(72,.int .i64 j)] []<|J.ok (OK.shr 73 .i64 ((c.ab.getD (i).toNat (⟨0,0,0,0,0⟩:Mv)).gOn) j (Int.fdiv ((c.ab.getD (i).toNat (⟨0,0,0,0,0⟩:Mv)).gOn) (2^(min (j).toNat 64))) kr om (rfl))<|J.h 1 [] [] [] 74 (.int .i64 (IntKind.wrap .i64 ((BitVec.ofInt 64 (Int.fdiv ((c.ab.getD (i).toNat (⟨0,0,0,0,0⟩:Mv)).gOn) (2^(min (j).toNat 64))) &&& (BitVec.ofInt 64 (1:Int))).toNat:Int))) (.int .i64 ((Int.fdiv ((c.ab.getD (i).toNat (⟨0,0,0,0,0⟩:Mv)).gOn) (2^(min (j).toNat 64)))%2)) (congrArg (Value.int .i64) (bi 1 _ _ rF dE))<|J.c 2 [] [] [] 75 (((Int.fdiv ((c.ab.getD (i).toNat (⟨0,0,0,0,0⟩:Mv)).gOn) (2^(min (j).toNat 64)))%2)=1) (fun fk5=>?_) fun fk5=>?_
   refine J.r 4 [true] [(77,.string (c.ay.getD (j).toNat ByteArray.empty)),(76,.slice ca cl.length cc)] []<|J.newSlice S29 78 1 [.string (c.ay.getD (j).toNat ByteArray.empty)] 9 kr ?_
   intro b4 w15 S30
   refine J.append (ah Value.string) S30 1 cl (c.ay.getD (j).toNat ByteArray.empty) 79 22 (.string ByteArray.empty) 16 ⟨b4,0,none⟩ 1 rfl kr kr kr kr dE (aU (S30.nth 0 rfl)) kr kr (⟨om,om⟩) ?_
   intro ra5 rc5 w16 S31
   replace S31:Sep w [box b4 [.string (c.ay.getD (j).toNat ByteArray.empty)] 9,aa (ah Value.string) ra5 rc5 9 1 (cl++[(c.ay.getD (j).toNat ByteArray.empty)]),box b3 [.int .i64 ((c.ab.getD (i).toNat (⟨0,0,0,0,0⟩:Mv)).aC),.int .i64 ((c.ab.getD (i).toNat (⟨0,0,0,0,0⟩:Mv)).gTo),.int .i64 ((c.ab.getD (i).toNat (⟨0,0,0,0,0⟩:Mv)).gOn),.int .i64 ((c.ab.getD (i).toNat (⟨0,0,0,0,0⟩:Mv)).aN),.int .i64 ((c.ab.getD (i).toNat (⟨0,0,0,0,0⟩:Mv)).ax)] 57,aa ba ra4 rc4 5 1 (ls tt12),box b2 [.pointer (some ⟨b2,0,none⟩),.slice ra4 ((ls tt12).length) rc4] 50,box b1 [.slice c.al c.aj c.ao,.slice c.ak c.af c.am,.int .i64 c.av,.slice c.aq c.ai c.au] 25] w16:=S31
   exact J.wi 5 [] [(7,.slice ra5 ((cl++[(c.ay.getD (j).toNat ByteArray.empty)]).length) rc5)] [] 80 (j+1)<|J.t 3 (ih2 _ (show((c.af:Int)-(j+1)).toNat<mm2 from by omega) ra5 rc5 (cl++[(c.ay.getD (j).toNat ByteArray.empty)]) (j+1) w16 om om (by (try rw[List.length_append,List.length_singleton]);omega) (by rw[cdOn_go j0 fk5,← hcl]) (S31.erase 0) rfl)
   exact J.wi 5 [false] [] [] 80 (j+1)<|J.t 3 (ih2 _ (show((c.af:Int)-(j+1)).toNat<mm2 from by omega) ca cc cl (j+1) w14 om om (by (try rw[List.length_append,List.length_singleton]);omega) (by rw[cdOn_no j0 fk5,← hcl]) S29 rfl)
   refine J.lb 6 [false] [] [] S29 4 rfl 82 (.slice c.ak c.af c.am) ?_
   have L6_3:∀ (mm_:Nat) (ca2:Option Addr) (cc2:Nat) (cl2:List ByteArray) (j2:Int) (w17:World),(0≤j2)→(j2≤(c.af:Int))→((cl2).length≤(c.ay.length+(j2).toNat))→(cl2=cdOff c (c.ab.getD (i).toNat (⟨0,0,0,0,0⟩:Mv)) (j2).toNat)→Sep w [aa (ah Value.string) ca2 cc2 9 1 cl2,box b3 [.int .i64 ((c.ab.getD (i).toNat (⟨0,0,0,0,0⟩:Mv)).aC),.int .i64 ((c.ab.getD (i).toNat (⟨0,0,0,0,0⟩:Mv)).gTo),.int .i64 ((c.ab.getD (i).toNat (⟨0,0,0,0,0⟩:Mv)).gOn),.int .i64 ((c.ab.getD (i).toNat (⟨0,0,0,0,0⟩:Mv)).aN),.int .i64 ((c.ab.getD (i).toNat (⟨0,0,0,0,0⟩:Mv)).ax)] 57,aa ba ra4 rc4 5 1 (ls tt12),box b2 [.pointer (some ⟨b2,0,none⟩),.slice ra4 ((ls tt12).length) rc4] 50,box b1 [.slice c.al c.aj c.ao,.slice c.ak c.af c.am,.int .i64 c.av,.slice c.aq c.ai c.au] 25] w17→((c.af:Int)-j2).toNat=mm_→J prog 6 119 R K6_2 [(84,.int .i64 j2),(83,.int .i64 (c.af:Int)),(82,.slice c.ak c.af c.am),(7,.slice ca2 cl2.length cc2),(6,.pointer (some ⟨b3,0,none⟩)),(43,.int .i64 i),(42,.int .i64 (c.ai:Int)),(41,.slice c.aq c.ai c.au),(4,.pointer (some ⟨b2,0,none⟩)),(1,.pointer (some ⟨b1,0,none⟩))] w17:=by
    intro mm3
    induction mm3 using Nat.strongRecOn with
    | _ mm3 ih3 =>
    intro ca2 cc2 cl2 j2 w17 j02 j12 jl2 hcl2 S32 hm3
    refine J.c 5 [] [] [] 85 (j2<(c.af:Int)) (fun fk6=>?_) fun fk6=>?_
    have hx4:=hvi j2.toNat
    refine J.r 7 [true] [(86,.int .i64 j2)] [] ?_
    obtain ⟨p6,hp6,hc6⟩:=q5.at ByteArray.empty (j2).toNat om
    have hel6:=bu q6 ByteArray.empty (n:=(j2).toNat) (by have:=q5.len_eq;omega)
    refine J.ok (OK.index 87 22 1 c.ak p6 c.af (j2).toNat j2 (p6.add (j2).toNat) kr kr hp6 om om nO)<|J.ok (OK.ldCell 88 9 (p6.add (j2).toNat) (.string (c.ay.getD (j2).toNat ByteArray.empty)) kr kr (S32.cell hc6))<|J.lb 6 [] [(11,.string (c.ay.getD (j2).toNat ByteArray.empty)),(10,.int .i64 j2)] [] S32 1 rfl 90 (.int .i64 ((c.ab.getD (i).toNat (⟨0,0,0,0,0⟩:Mv)).aN))<|J.r 1 [] [(91,.int .i64 j2)] []<|J.ok (OK.shr 92 .i64 ((c.ab.getD (i).toNat (⟨0,0,0,0,0⟩:Mv)).aN) j2 (Int.fdiv ((c.ab.getD (i).toNat (⟨0,0,0,0,0⟩:Mv)).aN) (2^(min (j2).toNat 64))) kr om (rfl))<|J.h 1 [] [] [] 93 (.int .i64 (IntKind.wrap .i64 ((BitVec.ofInt 64 (Int.fdiv ((c.ab.getD (i).toNat (⟨0,0,0,0,0⟩:Mv)).aN) (2^(min (j2).toNat 64))) &&& (BitVec.ofInt 64 (1:Int))).toNat:Int))) (.int .i64 ((Int.fdiv ((c.ab.getD (i).toNat (⟨0,0,0,0,0⟩:Mv)).aN) (2^(min (j2).toNat 64)))%2)) (congrArg (Value.int .i64) (bi 1 _ _ rF dE))<|J.c 2 [] [] [] 94 (((Int.fdiv ((c.ab.getD (i).toNat (⟨0,0,0,0,0⟩:Mv)).aN) (2^(min (j2).toNat 64)))%2)=1) (fun fk7=>?_) fun fk7=>?_
    refine J.r 4 [true] [(96,.string (c.ay.getD (j2).toNat ByteArray.empty)),(95,.slice ca2 cl2.length cc2)] [] ?_
    obtain ⟨tt13,htt13⟩:∃ y:ByteArray,y=(⟨#[110,111,116,32]⟩:ByteArray)++(c.ay.getD (j2).toNat ByteArray.empty):=⟨_,rfl⟩
    have hstt13:tt13.size=4+(c.ay.getD (j2).toNat ByteArray.empty).size:=by rw[htt13];exact aw _ _
    refine J.ok (OK.cat 97 (⟨#[110,111,116,32]⟩:ByteArray) (c.ay.getD (j2).toNat ByteArray.empty) tt13 kr (by rw[← aw,← htt13];omega) (htt13.symm))<|J.newSlice S32 98 1 [.string tt13] 9 kr ?_
    intro b5 w18 S33
    refine J.append (ah Value.string) S33 1 cl2 tt13 99 22 (.string ByteArray.empty) 16 ⟨b5,0,none⟩ 1 rfl kr kr kr kr dE (aU (S33.nth 0 rfl)) kr kr (⟨om,om⟩) ?_
    intro ra6 rc6 w19 S34
    replace S34:Sep w [box b5 [.string tt13] 9,aa (ah Value.string) ra6 rc6 9 1 (cl2++[tt13]),box b3 [.int .i64 ((c.ab.getD (i).toNat (⟨0,0,0,0,0⟩:Mv)).aC),.int .i64 ((c.ab.getD (i).toNat (⟨0,0,0,0,0⟩:Mv)).gTo),.int .i64 ((c.ab.getD (i).toNat (⟨0,0,0,0,0⟩:Mv)).gOn),.int .i64 ((c.ab.getD (i).toNat (⟨0,0,0,0,0⟩:Mv)).aN),.int .i64 ((c.ab.getD (i).toNat (⟨0,0,0,0,0⟩:Mv)).ax)] 57,aa ba ra4 rc4 5 1 (ls tt12),box b2 [.pointer (some ⟨b2,0,none⟩),.slice ra4 ((ls tt12).length) rc4] 50,box b1 [.slice c.al c.aj c.ao,.slice c.ak c.af c.am,.int .i64 c.av,.slice c.aq c.ai c.au] 25] w19:=S34
    exact J.wi 5 [] [(7,.slice ra6 ((cl2++[tt13]).length) rc6)] [] 100 (j2+1)<|J.t 3 (ih3 _ (show((c.af:Int)-(j2+1)).toNat<mm3 from by omega) ra6 rc6 (cl2++[tt13]) (j2+1) w19 om om (by (try rw[List.length_append,List.length_singleton]);omega) (by rw[cdOff_go j02 fk7,← hcl2];simp only[htt10,htt11,htt12,htt13]) (S34.erase 0) rfl)
    exact J.wi 5 [false] [] [] 100 (j2+1)<|J.t 3 (ih3 _ (show((c.af:Int)-(j2+1)).toNat<mm3 from by omega) ca2 cc2 cl2 (j2+1) w17 om om (by (try rw[List.length_append,List.length_singleton]);omega) (by rw[cdOff_no j02 fk7,← hcl2]) S32 rfl)
    refine J.c 9 [false] [] [] 103 ((cl2.length:Int)>0) (fun fk8=>?_) fun fk8=>?_
    refine J.r 3 [true] [(104,.slice ca2 cl2.length cc2)] [] ?_
    have:=aQ (S32.nth 0 rfl)
    refine J.c0 0 [] [] [] S32 105 hb19 (join_all ca2 cl2.length cc2 cl2 (⟨#[44,32]⟩:ByteArray) _ ((aR (S32.nth 0 rfl) cl2.length rO)) (co (S32.nth 0 rfl)).2.2 om (Nat.le_trans (by rw[← bY (n:=0) hcl2 om];exact cd_room hv om (c.ab.getD (i).toNat (⟨0,0,0,0,0⟩:Mv)):(bK cl2 (⟨#[44,32]⟩:ByteArray)).size≤600) dE)) fun w20 S35=>?_
    have:=(by rw[← bY (n:=0) hcl2 om];exact cd_room hv om (c.ab.getD (i).toNat (⟨0,0,0,0,0⟩:Mv)):(bK cl2 (⟨#[44,32]⟩:ByteArray)).size≤600)
    obtain ⟨tt14,htt14⟩:∃ y:ByteArray,y=(⟨#[32,105,102,32]⟩:ByteArray)++(bK cl2 (⟨#[44,32]⟩:ByteArray)):=⟨_,rfl⟩
    have hstt14:tt14.size=4+(bK cl2 (⟨#[44,32]⟩:ByteArray)).size:=by rw[htt14];exact aw _ _
    refine J.ok (OK.cat 106 (⟨#[32,105,102,32]⟩:ByteArray) (bK cl2 (⟨#[44,32]⟩:ByteArray)) tt14 kr (by rw[← aw,← htt14];omega) (htt14.symm)) ?_
    have S36:=S35.front 2 rfl
    have S37:Sep w [box b2 [.pointer (some ⟨b2,0,none⟩),.slice ra4 ((ls tt12).length) rc4] 50,aa ba ra4 rc4 5 1 (ls tt12),aa (ah Value.string) ca2 cc2 9 1 cl2,box b3 [.int .i64 ((c.ab.getD (i).toNat (⟨0,0,0,0,0⟩:Mv)).aC),.int .i64 ((c.ab.getD (i).toNat (⟨0,0,0,0,0⟩:Mv)).gTo),.int .i64 ((c.ab.getD (i).toNat (⟨0,0,0,0,0⟩:Mv)).gOn),.int .i64 ((c.ab.getD (i).toNat (⟨0,0,0,0,0⟩:Mv)).aN),.int .i64 ((c.ab.getD (i).toNat (⟨0,0,0,0,0⟩:Mv)).ax)] 57,box b1 [.slice c.al c.aj c.ao,.slice c.ak c.af c.am,.int .i64 c.av,.slice c.aq c.ai c.au] 25] w20:=S36.front 3 rfl
    refine J.callF 107 18 #[.pointer (some ⟨b2,0,none⟩),.string tt14] hb18 kr (bm b2 (some ⟨b2,0,none⟩) ra4 rc4 tt12 tt14 _ _ _ S37 (by first | assumption | exact .inl rfl | exact .inr rfl) om) ?_
    obtain ⟨tt15,htt15⟩:∃ y:ByteArray,y=tt12++tt14:=⟨_,rfl⟩
    have hstt15:tt15.size=tt12.size+tt14.size:=by rw[htt15];exact aw _ _
    rintro _ w21 ⟨rfl,ra7,rc7,S38⟩
    rw[show tt12++tt14=tt15 from htt15.symm] at S38
    replace S38:Sep w [box b2 [.pointer (some ⟨b2,0,none⟩),.slice ra7 ((ls tt15).length) rc7] 50,aa ba ra7 rc7 5 1 (ls tt15),aa (ah Value.string) ca2 cc2 9 1 cl2,box b3 [.int .i64 ((c.ab.getD (i).toNat (⟨0,0,0,0,0⟩:Mv)).aC),.int .i64 ((c.ab.getD (i).toNat (⟨0,0,0,0,0⟩:Mv)).gTo),.int .i64 ((c.ab.getD (i).toNat (⟨0,0,0,0,0⟩:Mv)).gOn),.int .i64 ((c.ab.getD (i).toNat (⟨0,0,0,0,0⟩:Mv)).aN),.int .i64 ((c.ab.getD (i).toNat (⟨0,0,0,0,0⟩:Mv)).ax)] 57,box b1 [.slice c.al c.aj c.ao,.slice c.ak c.af c.am,.int .i64 c.av,.slice c.aq c.ai c.au] 25] w21:=S38
    have S39:=S38.front 1 rfl
    have S40:=S39.front 3 rfl
    have S41:Sep w [aa (ah Value.string) ca2 cc2 9 1 cl2,box b3 [.int .i64 ((c.ab.getD (i).toNat (⟨0,0,0,0,0⟩:Mv)).aC),.int .i64 ((c.ab.getD (i).toNat (⟨0,0,0,0,0⟩:Mv)).gTo),.int .i64 ((c.ab.getD (i).toNat (⟨0,0,0,0,0⟩:Mv)).gOn),.int .i64 ((c.ab.getD (i).toNat (⟨0,0,0,0,0⟩:Mv)).aN),.int .i64 ((c.ab.getD (i).toNat (⟨0,0,0,0,0⟩:Mv)).ax)] 57,aa ba ra7 rc7 5 1 (ls tt15),box b2 [.pointer (some ⟨b2,0,none⟩),.slice ra7 ((ls tt15).length) rc7] 50,box b1 [.slice c.al c.aj c.ao,.slice c.ak c.af c.am,.int .i64 c.av,.slice c.aq c.ai c.au] 25] w21:=S40.front 3 rfl
    refine J.lb 5 [] [] [] S41 1 rfl 109 (.int .i64 ((c.ab.getD (i).toNat (⟨0,0,0,0,0⟩:Mv)).ax))<|J.c 2 [] [] [] 110 (((c.ab.getD (i).toNat (⟨0,0,0,0,0⟩:Mv)).ax)>0) (fun fk9=>?_) fun fk9=>?_
    refine J.lb 3 [true] [] [] S41 1 rfl 112 (.int .i64 ((c.ab.getD (i).toNat (⟨0,0,0,0,0⟩:Mv)).ax))<|J.c0 0 [] [] [] S41 113 hb20 (itoa_any ((c.ab.getD (i).toNat (⟨0,0,0,0,0⟩:Mv)).ax) _ om (cv hW S41)) fun w22 S42=>?_
    have:=bE (n:=((c.ab.getD (i).toNat (⟨0,0,0,0,0⟩:Mv)).ax)) om
    obtain ⟨tt16,htt16⟩:∃ y:ByteArray,y=(⟨#[32,97,102,116,101,114,32]⟩:ByteArray)++(bL ((c.ab.getD (i).toNat (⟨0,0,0,0,0⟩:Mv)).ax)):=⟨_,rfl⟩
    have hstt16:tt16.size=7+(bL ((c.ab.getD (i).toNat (⟨0,0,0,0,0⟩:Mv)).ax)).size:=by rw[htt16];exact aw _ _
    refine J.ok (OK.cat 114 (⟨#[32,97,102,116,101,114,32]⟩:ByteArray) (bL ((c.ab.getD (i).toNat (⟨0,0,0,0,0⟩:Mv)).ax)) tt16 kr (by rw[← aw,← htt16];omega) (htt16.symm)) ?_
    have S43:=S42.front 2 rfl
    have S44:Sep w [box b2 [.pointer (some ⟨b2,0,none⟩),.slice ra7 ((ls tt15).length) rc7] 50,aa ba ra7 rc7 5 1 (ls tt15),aa (ah Value.string) ca2 cc2 9 1 cl2,box b3 [.int .i64 ((c.ab.getD (i).toNat (⟨0,0,0,0,0⟩:Mv)).aC),.int .i64 ((c.ab.getD (i).toNat (⟨0,0,0,0,0⟩:Mv)).gTo),.int .i64 ((c.ab.getD (i).toNat (⟨0,0,0,0,0⟩:Mv)).gOn),.int .i64 ((c.ab.getD (i).toNat (⟨0,0,0,0,0⟩:Mv)).aN),.int .i64 ((c.ab.getD (i).toNat (⟨0,0,0,0,0⟩:Mv)).ax)] 57,box b1 [.slice c.al c.aj c.ao,.slice c.ak c.af c.am,.int .i64 c.av,.slice c.aq c.ai c.au] 25] w22:=S43.front 3 rfl
    refine J.callF 115 18 #[.pointer (some ⟨b2,0,none⟩),.string tt16] hb18 kr (bm b2 (some ⟨b2,0,none⟩) ra7 rc7 tt15 tt16 _ _ _ S44 (by first | assumption | exact .inl rfl | exact .inr rfl) om) ?_
    obtain ⟨tt17,htt17⟩:∃ y:ByteArray,y=tt15++tt16:=⟨_,rfl⟩
    have hstt17:tt17.size=tt15.size+tt16.size:=by rw[htt17];exact aw _ _
    rintro _ w23 ⟨rfl,ra8,rc8,S45⟩
    rw[show tt15++tt16=tt17 from htt17.symm] at S45
    replace S45:Sep w [box b2 [.pointer (some ⟨b2,0,none⟩),.slice ra8 ((ls tt17).length) rc8] 50,aa ba ra8 rc8 5 1 (ls tt17),aa (ah Value.string) ca2 cc2 9 1 cl2,box b3 [.int .i64 ((c.ab.getD (i).toNat (⟨0,0,0,0,0⟩:Mv)).aC),.int .i64 ((c.ab.getD (i).toNat (⟨0,0,0,0,0⟩:Mv)).gTo),.int .i64 ((c.ab.getD (i).toNat (⟨0,0,0,0,0⟩:Mv)).gOn),.int .i64 ((c.ab.getD (i).toNat (⟨0,0,0,0,0⟩:Mv)).aN),.int .i64 ((c.ab.getD (i).toNat (⟨0,0,0,0,0⟩:Mv)).ax)] 57,box b1 [.slice c.al c.aj c.ao,.slice c.ak c.af c.am,.int .i64 c.av,.slice c.aq c.ai c.au] 25] w23:=S45
    have S46:=S45.front 1 rfl
    have S47:=S46.front 3 rfl
    have S48:Sep w [aa (ah Value.string) ca2 cc2 9 1 cl2,box b3 [.int .i64 ((c.ab.getD (i).toNat (⟨0,0,0,0,0⟩:Mv)).aC),.int .i64 ((c.ab.getD (i).toNat (⟨0,0,0,0,0⟩:Mv)).gTo),.int .i64 ((c.ab.getD (i).toNat (⟨0,0,0,0,0⟩:Mv)).gOn),.int .i64 ((c.ab.getD (i).toNat (⟨0,0,0,0,0⟩:Mv)).aN),.int .i64 ((c.ab.getD (i).toNat (⟨0,0,0,0,0⟩:Mv)).ax)] 57,aa ba ra8 rc8 5 1 (ls tt17),box b2 [.pointer (some ⟨b2,0,none⟩),.slice ra8 ((ls tt17).length) rc8] 50,box b1 [.slice c.al c.aj c.ao,.slice c.ak c.af c.am,.int .i64 c.av,.slice c.aq c.ai c.au] 25] w23:=S47.front 3 rfl
    refine J.r 2 [] [] [] ?_
    have S49:=S48.front 2 rfl
    have S50:Sep w [box b2 [.pointer (some ⟨b2,0,none⟩),.slice ra8 ((ls tt17).length) rc8] 50,aa ba ra8 rc8 5 1 (ls tt17),aa (ah Value.string) ca2 cc2 9 1 cl2,box b3 [.int .i64 ((c.ab.getD (i).toNat (⟨0,0,0,0,0⟩:Mv)).aC),.int .i64 ((c.ab.getD (i).toNat (⟨0,0,0,0,0⟩:Mv)).gTo),.int .i64 ((c.ab.getD (i).toNat (⟨0,0,0,0,0⟩:Mv)).gOn),.int .i64 ((c.ab.getD (i).toNat (⟨0,0,0,0,0⟩:Mv)).aN),.int .i64 ((c.ab.getD (i).toNat (⟨0,0,0,0,0⟩:Mv)).ax)] 57,box b1 [.slice c.al c.aj c.ao,.slice c.ak c.af c.am,.int .i64 c.av,.slice c.aq c.ai c.au] 25] w23:=S49.front 3 rfl
    have hz1:(⟨#[10]⟩:ByteArray).size=1:=rfl
    refine J.callF 116 18 #[.pointer (some ⟨b2,0,none⟩),.string ⟨#[10]⟩] hb18 kr (bm b2 (some ⟨b2,0,none⟩) ra8 rc8 tt17 (⟨#[10]⟩:ByteArray) _ _ _ S50 (by first | assumption | exact .inl rfl | exact .inr rfl) om) ?_
    obtain ⟨tt18,htt18⟩:∃ y:ByteArray,y=tt17++(⟨#[10]⟩:ByteArray):=⟨_,rfl⟩
    have hstt18:tt18.size=tt17.size+1:=by rw[htt18];exact aw _ _
    rintro _ w24 ⟨rfl,ra9,rc9,S51⟩
    rw[show tt17++(⟨#[10]⟩:ByteArray)=tt18 from htt18.symm] at S51
    replace S51:Sep w [box b2 [.pointer (some ⟨b2,0,none⟩),.slice ra9 ((ls tt18).length) rc9] 50,aa ba ra9 rc9 5 1 (ls tt18),aa (ah Value.string) ca2 cc2 9 1 cl2,box b3 [.int .i64 ((c.ab.getD (i).toNat (⟨0,0,0,0,0⟩:Mv)).aC),.int .i64 ((c.ab.getD (i).toNat (⟨0,0,0,0,0⟩:Mv)).gTo),.int .i64 ((c.ab.getD (i).toNat (⟨0,0,0,0,0⟩:Mv)).gOn),.int .i64 ((c.ab.getD (i).toNat (⟨0,0,0,0,0⟩:Mv)).aN),.int .i64 ((c.ab.getD (i).toNat (⟨0,0,0,0,0⟩:Mv)).ax)] 57,box b1 [.slice c.al c.aj c.ao,.slice c.ak c.af c.am,.int .i64 c.av,.slice c.aq c.ai c.au] 25] w24:=S51
    have S52:=S51.front 1 rfl
    have S53:=S52.front 3 rfl
    have S54:Sep w [aa (ah Value.string) ca2 cc2 9 1 cl2,box b3 [.int .i64 ((c.ab.getD (i).toNat (⟨0,0,0,0,0⟩:Mv)).aC),.int .i64 ((c.ab.getD (i).toNat (⟨0,0,0,0,0⟩:Mv)).gTo),.int .i64 ((c.ab.getD (i).toNat (⟨0,0,0,0,0⟩:Mv)).gOn),.int .i64 ((c.ab.getD (i).toNat (⟨0,0,0,0,0⟩:Mv)).aN),.int .i64 ((c.ab.getD (i).toNat (⟨0,0,0,0,0⟩:Mv)).ax)] 57,aa ba ra9 rc9 5 1 (ls tt18),box b2 [.pointer (some ⟨b2,0,none⟩),.slice ra9 ((ls tt18).length) rc9] 50,box b1 [.slice c.al c.aj c.ao,.slice c.ak c.af c.am,.int .i64 c.av,.slice c.aq c.ai c.au] 25] w24:=S53.front 3 rfl
    exact J.wi 4 [] [] [] 117 (i+1)<|J.t 3 (ih1 _ (show((c.ai:Int)-(i+1)).toNat<mm1 from by omega) ra9 rc9 tt18 (i+1) w24 om om (by rw[bG h0,← ht];simp only[htt10,htt11,htt12,htt14,htt15,htt16,htt17,htt18];exact mv_11 (cdT_yes (bY (n:=0) hcl2 om) om) (afT_yes om)) ((S54.erase 1).erase 0) rfl)
    refine J.r 3 [false] [] [] ?_
    have S55:=S41.front 2 rfl
    have S56:Sep w [box b2 [.pointer (some ⟨b2,0,none⟩),.slice ra7 ((ls tt15).length) rc7] 50,aa ba ra7 rc7 5 1 (ls tt15),aa (ah Value.string) ca2 cc2 9 1 cl2,box b3 [.int .i64 ((c.ab.getD (i).toNat (⟨0,0,0,0,0⟩:Mv)).aC),.int .i64 ((c.ab.getD (i).toNat (⟨0,0,0,0,0⟩:Mv)).gTo),.int .i64 ((c.ab.getD (i).toNat (⟨0,0,0,0,0⟩:Mv)).gOn),.int .i64 ((c.ab.getD (i).toNat (⟨0,0,0,0,0⟩:Mv)).aN),.int .i64 ((c.ab.getD (i).toNat (⟨0,0,0,0,0⟩:Mv)).ax)] 57,box b1 [.slice c.al c.aj c.ao,.slice c.ak c.af c.am,.int .i64 c.av,.slice c.aq c.ai c.au] 25] w21:=S55.front 3 rfl
    have hz1:(⟨#[10]⟩:ByteArray).size=1:=rfl
    refine J.callF 116 18 #[.pointer (some ⟨b2,0,none⟩),.string ⟨#[10]⟩] hb18 kr (bm b2 (some ⟨b2,0,none⟩) ra7 rc7 tt15 (⟨#[10]⟩:ByteArray) _ _ _ S56 (by first | assumption | exact .inl rfl | exact .inr rfl) om) ?_
    obtain ⟨tt19,htt19⟩:∃ y:ByteArray,y=tt15++(⟨#[10]⟩:ByteArray):=⟨_,rfl⟩
    have hstt19:tt19.size=tt15.size+1:=by rw[htt19];exact aw _ _
    rintro _ w25 ⟨rfl,ra10,rc10,S57⟩
    rw[show tt15++(⟨#[10]⟩:ByteArray)=tt19 from htt19.symm] at S57
    replace S57:Sep w [box b2 [.pointer (some ⟨b2,0,none⟩),.slice ra10 ((ls tt19).length) rc10] 50,aa ba ra10 rc10 5 1 (ls tt19),aa (ah Value.string) ca2 cc2 9 1 cl2,box b3 [.int .i64 ((c.ab.getD (i).toNat (⟨0,0,0,0,0⟩:Mv)).aC),.int .i64 ((c.ab.getD (i).toNat (⟨0,0,0,0,0⟩:Mv)).gTo),.int .i64 ((c.ab.getD (i).toNat (⟨0,0,0,0,0⟩:Mv)).gOn),.int .i64 ((c.ab.getD (i).toNat (⟨0,0,0,0,0⟩:Mv)).aN),.int .i64 ((c.ab.getD (i).toNat (⟨0,0,0,0,0⟩:Mv)).ax)] 57,box b1 [.slice c.al c.aj c.ao,.slice c.ak c.af c.am,.int .i64 c.av,.slice c.aq c.ai c.au] 25] w25:=S57
    have S58:=S57.front 1 rfl
    have S59:=S58.front 3 rfl
    have S60:Sep w [aa (ah Value.string) ca2 cc2 9 1 cl2,box b3 [.int .i64 ((c.ab.getD (i).toNat (⟨0,0,0,0,0⟩:Mv)).aC),.int .i64 ((c.ab.getD (i).toNat (⟨0,0,0,0,0⟩:Mv)).gTo),.int .i64 ((c.ab.getD (i).toNat (⟨0,0,0,0,0⟩:Mv)).gOn),.int .i64 ((c.ab.getD (i).toNat (⟨0,0,0,0,0⟩:Mv)).aN),.int .i64 ((c.ab.getD (i).toNat (⟨0,0,0,0,0⟩:Mv)).ax)] 57,aa ba ra10 rc10 5 1 (ls tt19),box b2 [.pointer (some ⟨b2,0,none⟩),.slice ra10 ((ls tt19).length) rc10] 50,box b1 [.slice c.al c.aj c.ao,.slice c.ak c.af c.am,.int .i64 c.av,.slice c.aq c.ai c.au] 25] w25:=S59.front 3 rfl
    exact J.wi 4 [] [] [] 117 (i+1)<|J.t 3 (ih1 _ (show((c.ai:Int)-(i+1)).toNat<mm1 from by omega) ra10 rc10 tt19 (i+1) w25 om om (by rw[bG h0,← ht];simp only[htt10,htt11,htt12,htt14,htt15,htt19];exact mv_10 (cdT_yes (bY (n:=0) hcl2 om) om) (afT_no om)) ((S60.erase 1).erase 0) rfl)
    refine J.lb 6 [false] [] [] S32 1 rfl 109 (.int .i64 ((c.ab.getD (i).toNat (⟨0,0,0,0,0⟩:Mv)).ax))<|J.c 2 [] [] [] 110 (((c.ab.getD (i).toNat (⟨0,0,0,0,0⟩:Mv)).ax)>0) (fun fk10=>?_) fun fk10=>?_
    refine J.lb 3 [true] [] [] S32 1 rfl 112 (.int .i64 ((c.ab.getD (i).toNat (⟨0,0,0,0,0⟩:Mv)).ax))<|J.c0 0 [] [] [] S32 113 hb20 (itoa_any ((c.ab.getD (i).toNat (⟨0,0,0,0,0⟩:Mv)).ax) _ om (cv hW S32)) fun w26 S61=>?_
    have:=bE (n:=((c.ab.getD (i).toNat (⟨0,0,0,0,0⟩:Mv)).ax)) om
    obtain ⟨tt20,htt20⟩:∃ y:ByteArray,y=(⟨#[32,97,102,116,101,114,32]⟩:ByteArray)++(bL ((c.ab.getD (i).toNat (⟨0,0,0,0,0⟩:Mv)).ax)):=⟨_,rfl⟩
    have hstt20:tt20.size=7+(bL ((c.ab.getD (i).toNat (⟨0,0,0,0,0⟩:Mv)).ax)).size:=by rw[htt20];exact aw _ _
    refine J.ok (OK.cat 114 (⟨#[32,97,102,116,101,114,32]⟩:ByteArray) (bL ((c.ab.getD (i).toNat (⟨0,0,0,0,0⟩:Mv)).ax)) tt20 kr (by rw[← aw,← htt20];omega) (htt20.symm)) ?_
    have S62:=S61.front 2 rfl
    have S63:Sep w [box b2 [.pointer (some ⟨b2,0,none⟩),.slice ra4 ((ls tt12).length) rc4] 50,aa ba ra4 rc4 5 1 (ls tt12),aa (ah Value.string) ca2 cc2 9 1 cl2,box b3 [.int .i64 ((c.ab.getD (i).toNat (⟨0,0,0,0,0⟩:Mv)).aC),.int .i64 ((c.ab.getD (i).toNat (⟨0,0,0,0,0⟩:Mv)).gTo),.int .i64 ((c.ab.getD (i).toNat (⟨0,0,0,0,0⟩:Mv)).gOn),.int .i64 ((c.ab.getD (i).toNat (⟨0,0,0,0,0⟩:Mv)).aN),.int .i64 ((c.ab.getD (i).toNat (⟨0,0,0,0,0⟩:Mv)).ax)] 57,box b1 [.slice c.al c.aj c.ao,.slice c.ak c.af c.am,.int .i64 c.av,.slice c.aq c.ai c.au] 25] w26:=S62.front 3 rfl
    refine J.callF 115 18 #[.pointer (some ⟨b2,0,none⟩),.string tt20] hb18 kr (bm b2 (some ⟨b2,0,none⟩) ra4 rc4 tt12 tt20 _ _ _ S63 (by first | assumption | exact .inl rfl | exact .inr rfl) om) ?_
    obtain ⟨tt21,htt21⟩:∃ y:ByteArray,y=tt12++tt20:=⟨_,rfl⟩
    have hstt21:tt21.size=tt12.size+tt20.size:=by rw[htt21];exact aw _ _
    rintro _ w27 ⟨rfl,ra11,rc11,S64⟩
    rw[show tt12++tt20=tt21 from htt21.symm] at S64
    replace S64:Sep w [box b2 [.pointer (some ⟨b2,0,none⟩),.slice ra11 ((ls tt21).length) rc11] 50,aa ba ra11 rc11 5 1 (ls tt21),aa (ah Value.string) ca2 cc2 9 1 cl2,box b3 [.int .i64 ((c.ab.getD (i).toNat (⟨0,0,0,0,0⟩:Mv)).aC),.int .i64 ((c.ab.getD (i).toNat (⟨0,0,0,0,0⟩:Mv)).gTo),.int .i64 ((c.ab.getD (i).toNat (⟨0,0,0,0,0⟩:Mv)).gOn),.int .i64 ((c.ab.getD (i).toNat (⟨0,0,0,0,0⟩:Mv)).aN),.int .i64 ((c.ab.getD (i).toNat (⟨0,0,0,0,0⟩:Mv)).ax)] 57,box b1 [.slice c.al c.aj c.ao,.slice c.ak c.af c.am,.int .i64 c.av,.slice c.aq c.ai c.au] 25] w27:=S64
    have S65:=S64.front 1 rfl
    have S66:=S65.front 3 rfl
    have S67:Sep w [aa (ah Value.string) ca2 cc2 9 1 cl2,box b3 [.int .i64 ((c.ab.getD (i).toNat (⟨0,0,0,0,0⟩:Mv)).aC),.int .i64 ((c.ab.getD (i).toNat (⟨0,0,0,0,0⟩:Mv)).gTo),.int .i64 ((c.ab.getD (i).toNat (⟨0,0,0,0,0⟩:Mv)).gOn),.int .i64 ((c.ab.getD (i).toNat (⟨0,0,0,0,0⟩:Mv)).aN),.int .i64 ((c.ab.getD (i).toNat (⟨0,0,0,0,0⟩:Mv)).ax)] 57,aa ba ra11 rc11 5 1 (ls tt21),box b2 [.pointer (some ⟨b2,0,none⟩),.slice ra11 ((ls tt21).length) rc11] 50,box b1 [.slice c.al c.aj c.ao,.slice c.ak c.af c.am,.int .i64 c.av,.slice c.aq c.ai c.au] 25] w27:=S66.front 3 rfl
    refine J.r 2 [] [] [] ?_
    have S68:=S67.front 2 rfl
    have S69:Sep w [box b2 [.pointer (some ⟨b2,0,none⟩),.slice ra11 ((ls tt21).length) rc11] 50,aa ba ra11 rc11 5 1 (ls tt21),aa (ah Value.string) ca2 cc2 9 1 cl2,box b3 [.int .i64 ((c.ab.getD (i).toNat (⟨0,0,0,0,0⟩:Mv)).aC),.int .i64 ((c.ab.getD (i).toNat (⟨0,0,0,0,0⟩:Mv)).gTo),.int .i64 ((c.ab.getD (i).toNat (⟨0,0,0,0,0⟩:Mv)).gOn),.int .i64 ((c.ab.getD (i).toNat (⟨0,0,0,0,0⟩:Mv)).aN),.int .i64 ((c.ab.getD (i).toNat (⟨0,0,0,0,0⟩:Mv)).ax)] 57,box b1 [.slice c.al c.aj c.ao,.slice c.ak c.af c.am,.int .i64 c.av,.slice c.aq c.ai c.au] 25] w27:=S68.front 3 rfl
    have hz1:(⟨#[10]⟩:ByteArray).size=1:=rfl
    refine J.callF 116 18 #[.pointer (some ⟨b2,0,none⟩),.string ⟨#[10]⟩] hb18 kr (bm b2 (some ⟨b2,0,none⟩) ra11 rc11 tt21 (⟨#[10]⟩:ByteArray) _ _ _ S69 (by first | assumption | exact .inl rfl | exact .inr rfl) om) ?_
    obtain ⟨tt22,htt22⟩:∃ y:ByteArray,y=tt21++(⟨#[10]⟩:ByteArray):=⟨_,rfl⟩
    have hstt22:tt22.size=tt21.size+1:=by rw[htt22];exact aw _ _
    rintro _ w28 ⟨rfl,ra12,rc12,S70⟩
    rw[show tt21++(⟨#[10]⟩:ByteArray)=tt22 from htt22.symm] at S70
    replace S70:Sep w [box b2 [.pointer (some ⟨b2,0,none⟩),.slice ra12 ((ls tt22).length) rc12] 50,aa ba ra12 rc12 5 1 (ls tt22),aa (ah Value.string) ca2 cc2 9 1 cl2,box b3 [.int .i64 ((c.ab.getD (i).toNat (⟨0,0,0,0,0⟩:Mv)).aC),.int .i64 ((c.ab.getD (i).toNat (⟨0,0,0,0,0⟩:Mv)).gTo),.int .i64 ((c.ab.getD (i).toNat (⟨0,0,0,0,0⟩:Mv)).gOn),.int .i64 ((c.ab.getD (i).toNat (⟨0,0,0,0,0⟩:Mv)).aN),.int .i64 ((c.ab.getD (i).toNat (⟨0,0,0,0,0⟩:Mv)).ax)] 57,box b1 [.slice c.al c.aj c.ao,.slice c.ak c.af c.am,.int .i64 c.av,.slice c.aq c.ai c.au] 25] w28:=S70
    have S71:=S70.front 1 rfl
    have S72:=S71.front 3 rfl
    have S73:Sep w [aa (ah Value.string) ca2 cc2 9 1 cl2,box b3 [.int .i64 ((c.ab.getD (i).toNat (⟨0,0,0,0,0⟩:Mv)).aC),.int .i64 ((c.ab.getD (i).toNat (⟨0,0,0,0,0⟩:Mv)).gTo),.int .i64 ((c.ab.getD (i).toNat (⟨0,0,0,0,0⟩:Mv)).gOn),.int .i64 ((c.ab.getD (i).toNat (⟨0,0,0,0,0⟩:Mv)).aN),.int .i64 ((c.ab.getD (i).toNat (⟨0,0,0,0,0⟩:Mv)).ax)] 57,aa ba ra12 rc12 5 1 (ls tt22),box b2 [.pointer (some ⟨b2,0,none⟩),.slice ra12 ((ls tt22).length) rc12] 50,box b1 [.slice c.al c.aj c.ao,.slice c.ak c.af c.am,.int .i64 c.av,.slice c.aq c.ai c.au] 25] w28:=S72.front 3 rfl
    exact J.wi 4 [] [] [] 117 (i+1)<|J.t 3 (ih1 _ (show((c.ai:Int)-(i+1)).toNat<mm1 from by omega) ra12 rc12 tt22 (i+1) w28 om om (by rw[bG h0,← ht];simp only[htt10,htt11,htt12,htt20,htt21,htt22];exact mv_01 (cdT_no (bY (n:=0) hcl2 om) om) (afT_yes om)) ((S73.erase 1).erase 0) rfl)
    refine J.r 3 [false] [] [] ?_
    have S74:=S32.front 2 rfl
    have S75:Sep w [box b2 [.pointer (some ⟨b2,0,none⟩),.slice ra4 ((ls tt12).length) rc4] 50,aa ba ra4 rc4 5 1 (ls tt12),aa (ah Value.string) ca2 cc2 9 1 cl2,box b3 [.int .i64 ((c.ab.getD (i).toNat (⟨0,0,0,0,0⟩:Mv)).aC),.int .i64 ((c.ab.getD (i).toNat (⟨0,0,0,0,0⟩:Mv)).gTo),.int .i64 ((c.ab.getD (i).toNat (⟨0,0,0,0,0⟩:Mv)).gOn),.int .i64 ((c.ab.getD (i).toNat (⟨0,0,0,0,0⟩:Mv)).aN),.int .i64 ((c.ab.getD (i).toNat (⟨0,0,0,0,0⟩:Mv)).ax)] 57,box b1 [.slice c.al c.aj c.ao,.slice c.ak c.af c.am,.int .i64 c.av,.slice c.aq c.ai c.au] 25] w17:=S74.front 3 rfl
    have hz1:(⟨#[10]⟩:ByteArray).size=1:=rfl
    refine J.callF 116 18 #[.pointer (some ⟨b2,0,none⟩),.string ⟨#[10]⟩] hb18 kr (bm b2 (some ⟨b2,0,none⟩) ra4 rc4 tt12 (⟨#[10]⟩:ByteArray) _ _ _ S75 (by first | assumption | exact .inl rfl | exact .inr rfl) om) ?_
    obtain ⟨tt23,htt23⟩:∃ y:ByteArray,y=tt12++(⟨#[10]⟩:ByteArray):=⟨_,rfl⟩
    have hstt23:tt23.size=tt12.size+1:=by rw[htt23];exact aw _ _
    rintro _ w29 ⟨rfl,ra13,rc13,S76⟩
    rw[show tt12++(⟨#[10]⟩:ByteArray)=tt23 from htt23.symm] at S76
    replace S76:Sep w [box b2 [.pointer (some ⟨b2,0,none⟩),.slice ra13 ((ls tt23).length) rc13] 50,aa ba ra13 rc13 5 1 (ls tt23),aa (ah Value.string) ca2 cc2 9 1 cl2,box b3 [.int .i64 ((c.ab.getD (i).toNat (⟨0,0,0,0,0⟩:Mv)).aC),.int .i64 ((c.ab.getD (i).toNat (⟨0,0,0,0,0⟩:Mv)).gTo),.int .i64 ((c.ab.getD (i).toNat (⟨0,0,0,0,0⟩:Mv)).gOn),.int .i64 ((c.ab.getD (i).toNat (⟨0,0,0,0,0⟩:Mv)).aN),.int .i64 ((c.ab.getD (i).toNat (⟨0,0,0,0,0⟩:Mv)).ax)] 57,box b1 [.slice c.al c.aj c.ao,.slice c.ak c.af c.am,.int .i64 c.av,.slice c.aq c.ai c.au] 25] w29:=S76
    have S77:=S76.front 1 rfl
    have S78:=S77.front 3 rfl
    have S79:Sep w [aa (ah Value.string) ca2 cc2 9 1 cl2,box b3 [.int .i64 ((c.ab.getD (i).toNat (⟨0,0,0,0,0⟩:Mv)).aC),.int .i64 ((c.ab.getD (i).toNat (⟨0,0,0,0,0⟩:Mv)).gTo),.int .i64 ((c.ab.getD (i).toNat (⟨0,0,0,0,0⟩:Mv)).gOn),.int .i64 ((c.ab.getD (i).toNat (⟨0,0,0,0,0⟩:Mv)).aN),.int .i64 ((c.ab.getD (i).toNat (⟨0,0,0,0,0⟩:Mv)).ax)] 57,aa ba ra13 rc13 5 1 (ls tt23),box b2 [.pointer (some ⟨b2,0,none⟩),.slice ra13 ((ls tt23).length) rc13] 50,box b1 [.slice c.al c.aj c.ao,.slice c.ak c.af c.am,.int .i64 c.av,.slice c.aq c.ai c.au] 25] w29:=S78.front 3 rfl
    exact J.wi 4 [] [] [] 117 (i+1)<|J.t 3 (ih1 _ (show((c.ai:Int)-(i+1)).toNat<mm1 from by omega) ra13 rc13 tt23 (i+1) w29 om om (by rw[bG h0,← ht];simp only[htt10,htt11,htt12,htt23];exact mv_00 (cdT_no (bY (n:=0) hcl2 om) om) (afT_no om)) ((S79.erase 1).erase 0) rfl)
   exact J.t 5 (L6_3 _ ca cc cl 0 w14 om om om (hcl.trans (by rw[show j=(c.ay.length:Int) by omega];rfl)) S29 rfl)
  exact J.t 5 (L6_2 _ none 0 ([]) 0 w13 om om (by simp) (rfl) S28 rfl)
  refine J.r 4 [false] [] [] ?_
  have S80:=S19.front 0 rfl
  have S81:Sep w [box b2 [.pointer (some ⟨b2,0,none⟩),.slice ra ((ls t).length) rc] 50,aa ba ra rc 5 1 (ls t),box b1 [.slice c.al c.aj c.ao,.slice c.ak c.af c.am,.int .i64 c.av,.slice c.aq c.ai c.au] 25] w9:=S80.front 1 rfl
  refine J.callF 118 21 #[.pointer (some ⟨b2,0,none⟩)] hb21 kr (bstring_any b2 (some ⟨b2,0,none⟩) ra rc t _ _ _ S81 (by first | assumption | exact .inl rfl | exact .inr rfl) (offs_cons (off_box _ _ _ dE) (offs_nil _))) ?_
  rintro _ w30 ⟨rfl,S82⟩
  replace S82:Sep w [box b1 [.slice c.al c.aj c.ao,.slice c.ak c.af c.am,.int .i64 c.av,.slice c.aq c.ai c.au] 25] w30:=S82
  refine J.e 3 [.string t,.int .i64 0] func6 (hR _ _ ?_)
  exact⟨by rw[(tx_yes hv).1,(tx_yes hv).2,ht,show i.toNat=c.ab.length by omega];rfl,S82.nil⟩
 exact J.t 5 (L6_1 _ ra3 rc3 tt9 0 w8 om om (by simp only[htt1,htt2,htt3,htt4,htt5,htt6,htt7,htt8,htt9];exact hd_in om) S18 rfl)
 refine J.lb 5 [false] [] [] S9 2 rfl 32 (.slice c.al c.aj c.ao)<|J.lb 1 [] [] [] S9 2 rfl 34 (.int .i64 c.av) ?_
 obtain ⟨p7,hp7,hc7⟩:=q2.at ByteArray.empty (c.av).toNat om
 have hel7:=bu q3 ByteArray.empty (n:=(c.av).toNat) (by have:=q2.len_eq;omega)
 refine J.ok (OK.index 35 22 1 c.al p7 c.aj (c.av).toNat c.av (p7.add (c.av).toNat) kr kr hp7 om om nO)<|J.ok (OK.ldCell 36 9 (p7.add (c.av).toNat) (.string (c.aB.getD (c.av).toNat ByteArray.empty)) kr kr (S9.cell hc7)) ?_
 obtain ⟨tt24,htt24⟩:∃ y:ByteArray,y=(⟨#[115,116,97,114,116,32]⟩:ByteArray)++(c.aB.getD (c.av).toNat ByteArray.empty):=⟨_,rfl⟩
 have hstt24:tt24.size=6+(c.aB.getD (c.av).toNat ByteArray.empty).size:=by rw[htt24];exact aw _ _
 refine J.ok (OK.cat 37 (⟨#[115,116,97,114,116,32]⟩:ByteArray) (c.aB.getD (c.av).toNat ByteArray.empty) tt24 kr (by rw[← aw,← htt24];omega) (htt24.symm)) ?_
 obtain ⟨tt25,htt25⟩:∃ y:ByteArray,y=tt24++(⟨#[10]⟩:ByteArray):=⟨_,rfl⟩
 have hstt25:tt25.size=tt24.size+1:=by rw[htt25];exact aw _ _
 refine J.ok (OK.cat 38 tt24 (⟨#[10]⟩:ByteArray) tt25 kr (by rw[← aw,← htt25];omega) (htt25.symm)) ?_
 have S83:=S9.front 0 rfl
 have S84:Sep w [box b2 [.pointer (some ⟨b2,0,none⟩),.slice ra1 ((ls tt3).length) rc1] 50,aa ba ra1 rc1 5 1 (ls tt3),box b1 [.slice c.al c.aj c.ao,.slice c.ak c.af c.am,.int .i64 c.av,.slice c.aq c.ai c.au] 25] w5:=S83.front 1 rfl
 refine J.callF 39 18 #[.pointer (some ⟨b2,0,none⟩),.string tt25] hb18 kr (bm b2 (some ⟨b2,0,none⟩) ra1 rc1 tt3 tt25 _ _ _ S84 (by first | assumption | exact .inl rfl | exact .inr rfl) om) ?_
 obtain ⟨tt26,htt26⟩:∃ y:ByteArray,y=tt3++tt25:=⟨_,rfl⟩
 have hstt26:tt26.size=tt3.size+tt25.size:=by rw[htt26];exact aw _ _
 rintro _ w31 ⟨rfl,ra14,rc14,S85⟩
 rw[show tt3++tt25=tt26 from htt26.symm] at S85
 replace S85:Sep w [box b2 [.pointer (some ⟨b2,0,none⟩),.slice ra14 ((ls tt26).length) rc14] 50,aa ba ra14 rc14 5 1 (ls tt26),box b1 [.slice c.al c.aj c.ao,.slice c.ak c.af c.am,.int .i64 c.av,.slice c.aq c.ai c.au] 25] w31:=S85
 have S86:Sep w [aa ba ra14 rc14 5 1 (ls tt26),box b2 [.pointer (some ⟨b2,0,none⟩),.slice ra14 ((ls tt26).length) rc14] 50,box b1 [.slice c.al c.aj c.ao,.slice c.ak c.af c.am,.int .i64 c.av,.slice c.aq c.ai c.au] 25] w31:=S85.front 1 rfl
 refine J.lb 5 [] [] [] S86 2 rfl 41 (.slice c.aq c.ai c.au) ?_
 have L6_4:∀ (mm_:Nat) (ra:Option Addr) (rc:Nat) (t:ByteArray) (i:Int) (w32:World),(0≤i)→(i≤(c.ai:Int))→(t=mvsT c (i).toNat)→Sep w [aa ba ra rc 5 1 (ls t),box b2 [.pointer (some ⟨b2,0,none⟩),.slice ra ((ls t).length) rc] 50,box b1 [.slice c.al c.aj c.ao,.slice c.ak c.af c.am,.int .i64 c.av,.slice c.aq c.ai c.au] 25] w32→((c.ai:Int)-i).toNat=mm_→J prog 6 119 R K6_3 [(43,.int .i64 i),(42,.int .i64 (c.ai:Int)),(41,.slice c.aq c.ai c.au),(4,.pointer (some ⟨b2,0,none⟩)),(1,.pointer (some ⟨b1,0,none⟩))] w32:=by
  intro mm4
  induction mm4 using Nat.strongRecOn with
  | _ mm4 ih4 =>
  intro ra rc t i w32 h0 h1 ht S87 hm4
  have hts:=mvs_room hv om om (fun k hk=>(mv_at hv hk).2.2) i.toNat om
  rw[← ht] at hts
  skip
  refine J.c 5 [] [] [] 44 (i<(c.ai:Int)) (fun fk11=>?_) fun fk11=>?_
  have hma:=mv_at hv (k:=i.toNat) om
  have hx1:=hvn ((c.ab.getD (i).toNat (⟨0,0,0,0,0⟩:Mv)).aC).toNat
  have hx2:=hvn ((c.ab.getD (i).toNat (⟨0,0,0,0,0⟩:Mv)).gTo).toNat
  have hx3:=bE (n:=(c.ab.getD (i).toNat (⟨0,0,0,0,0⟩:Mv)).ax) om
  refine J.r 6 [true] [] [] ?_
  obtain ⟨p8,hp8,hc8⟩:=q9.at (⟨0,0,0,0,0⟩:Mv) (i).toNat om
  have hel8:=bu q10 (⟨0,0,0,0,0⟩:Mv) (n:=(i).toNat) (by have:=q9.len_eq;omega)
  obtain ⟨q16,q17,q18,q19,q20,_⟩:=id hel8
  refine J.ok (OK.index 45 23 5 c.aq p8 c.ai (i).toNat i (p8.add ((i).toNat*5)) kr kr hp8 om om rfl)<|J.ok (OK.ldCells 46 57 (p8.add ((i).toNat*5)) [.int .i64 ((c.ab.getD (i).toNat (⟨0,0,0,0,0⟩:Mv)).aC),.int .i64 ((c.ab.getD (i).toNat (⟨0,0,0,0,0⟩:Mv)).gTo),.int .i64 ((c.ab.getD (i).toNat (⟨0,0,0,0,0⟩:Mv)).gOn),.int .i64 ((c.ab.getD (i).toNat (⟨0,0,0,0,0⟩:Mv)).aN),.int .i64 ((c.ab.getD (i).toNat (⟨0,0,0,0,0⟩:Mv)).ax)] kr kr kr (fun j_ v_ hj_=>S87.cell (hc8 j_ v_ hj_)))<|J.nw 0 [] [] [] S87 6 [.int .i64 0,.int .i64 0,.int .i64 0,.int .i64 0,.int .i64 0] 57 fun b6 w33 S88=>J.sb 0 [] [] [] S88 0 rfl [.int .i64 ((c.ab.getD (i).toNat (⟨0,0,0,0,0⟩:Mv)).aC),.int .i64 ((c.ab.getD (i).toNat (⟨0,0,0,0,0⟩:Mv)).gTo),.int .i64 ((c.ab.getD (i).toNat (⟨0,0,0,0,0⟩:Mv)).gOn),.int .i64 ((c.ab.getD (i).toNat (⟨0,0,0,0,0⟩:Mv)).aN),.int .i64 ((c.ab.getD (i).toNat (⟨0,0,0,0,0⟩:Mv)).ax)] rfl fun w34 S89=>J.r 2 [] [] [] ?_
  obtain ⟨p9,hp9,hc9⟩:=q2.at ByteArray.empty ((c.ab.getD (i).toNat (⟨0,0,0,0,0⟩:Mv)).aC).toNat om
  have hel9:=bu q3 ByteArray.empty (n:=((c.ab.getD (i).toNat (⟨0,0,0,0,0⟩:Mv)).aC).toNat) (by have:=q2.len_eq;omega)
  obtain ⟨p10,hp10,hc10⟩:=q2.at ByteArray.empty ((c.ab.getD (i).toNat (⟨0,0,0,0,0⟩:Mv)).gTo).toNat om
  have hel10:=bu q3 ByteArray.empty (n:=((c.ab.getD (i).toNat (⟨0,0,0,0,0⟩:Mv)).gTo).toNat) (by have:=q2.len_eq;omega)
  refine J.drawTail S89 14 Tryz.mixed kr kr ?_
  intro w35 S90
  refine SL.r 47 (.pointer (some ⟨b1,0,none⟩))<|SL.lb S90 3 rfl 48 (.slice c.al c.aj c.ao)<|SL.r 49 (.pointer (some ⟨b6,0,none⟩))<|SL.lb S90 0 rfl 50 (.int .i64 ((c.ab.getD (i).toNat (⟨0,0,0,0,0⟩:Mv)).aC))<|SL.ok dE (OK.index 51 22 1 c.al p9 c.aj ((c.ab.getD (i).toNat (⟨0,0,0,0,0⟩:Mv)).aC).toNat ((c.ab.getD (i).toNat (⟨0,0,0,0,0⟩:Mv)).aC) (p9.add ((c.ab.getD (i).toNat (⟨0,0,0,0,0⟩:Mv)).aC).toNat) kr kr hp9 om om nO)<|SL.ok dE (OK.ldCell 52 9 (p9.add ((c.ab.getD (i).toNat (⟨0,0,0,0,0⟩:Mv)).aC).toNat) (.string (c.aB.getD ((c.ab.getD (i).toNat (⟨0,0,0,0,0⟩:Mv)).aC).toNat ByteArray.empty)) kr kr (S90.cell hc9)) ?_
  obtain ⟨tt27,htt27⟩:∃ y:ByteArray,y=(c.aB.getD ((c.ab.getD (i).toNat (⟨0,0,0,0,0⟩:Mv)).aC).toNat ByteArray.empty)++(⟨#[32,116,111,32]⟩:ByteArray):=⟨_,rfl⟩
  have hstt27:tt27.size=(c.aB.getD ((c.ab.getD (i).toNat (⟨0,0,0,0,0⟩:Mv)).aC).toNat ByteArray.empty).size+4:=by rw[htt27];exact aw _ _
  refine SL.ok dE (OK.cat 53 (c.aB.getD ((c.ab.getD (i).toNat (⟨0,0,0,0,0⟩:Mv)).aC).toNat ByteArray.empty) (⟨#[32,116,111,32]⟩:ByteArray) tt27 kr (by rw[← aw,← htt27];omega) (htt27.symm))<|SL.r 54 (.pointer (some ⟨b1,0,none⟩))<|SL.lb S90 3 rfl 55 (.slice c.al c.aj c.ao)<|SL.r 56 (.pointer (some ⟨b6,1,none⟩))<|SL.lb S90 0 rfl 57 (.int .i64 ((c.ab.getD (i).toNat (⟨0,0,0,0,0⟩:Mv)).gTo))<|SL.ok dE (OK.index 58 22 1 c.al p10 c.aj ((c.ab.getD (i).toNat (⟨0,0,0,0,0⟩:Mv)).gTo).toNat ((c.ab.getD (i).toNat (⟨0,0,0,0,0⟩:Mv)).gTo) (p10.add ((c.ab.getD (i).toNat (⟨0,0,0,0,0⟩:Mv)).gTo).toNat) kr kr hp10 om om nO)<|SL.ok dE (OK.ldCell 59 9 (p10.add ((c.ab.getD (i).toNat (⟨0,0,0,0,0⟩:Mv)).gTo).toNat) (.string (c.aB.getD ((c.ab.getD (i).toNat (⟨0,0,0,0,0⟩:Mv)).gTo).toNat ByteArray.empty)) kr kr (S90.cell hc10)) ?_
  obtain ⟨tt28,htt28⟩:∃ y:ByteArray,y=tt27++(c.aB.getD ((c.ab.getD (i).toNat (⟨0,0,0,0,0⟩:Mv)).gTo).toNat ByteArray.empty):=⟨_,rfl⟩
  have hstt28:tt28.size=tt27.size+(c.aB.getD ((c.ab.getD (i).toNat (⟨0,0,0,0,0⟩:Mv)).gTo).toNat ByteArray.empty).size:=by rw[htt28];exact aw _ _
  refine SL.ok dE (OK.cat 60 tt27 (c.aB.getD ((c.ab.getD (i).toNat (⟨0,0,0,0,0⟩:Mv)).gTo).toNat ByteArray.empty) tt28 kr (by rw[← aw,← htt28];omega) (htt28.symm))<|SL.done ?_
  have S91:=S90.front 1 rfl
  clear S90
  have S92:Sep w [box b2 [.pointer (some ⟨b2,0,none⟩),.slice ra ((ls t).length) rc] 50,aa ba ra rc 5 1 (ls t),box b6 [.int .i64 ((c.ab.getD (i).toNat (⟨0,0,0,0,0⟩:Mv)).aC),.int .i64 ((c.ab.getD (i).toNat (⟨0,0,0,0,0⟩:Mv)).gTo),.int .i64 ((c.ab.getD (i).toNat (⟨0,0,0,0,0⟩:Mv)).gOn),.int .i64 ((c.ab.getD (i).toNat (⟨0,0,0,0,0⟩:Mv)).aN),.int .i64 ((c.ab.getD (i).toNat (⟨0,0,0,0,0⟩:Mv)).ax)] 57,box b1 [.slice c.al c.aj c.ao,.slice c.ak c.af c.am,.int .i64 c.av,.slice c.aq c.ai c.au] 25] w35:=S91.front 2 rfl
  clear S91
  refine TL.callF 61 18 #[.pointer (some ⟨b2,0,none⟩),.string tt28] hb18 kr (bm b2 (some ⟨b2,0,none⟩) ra rc t tt28 _ _ _ S92 (by first | assumption | exact .inl rfl | exact .inr rfl) om) ?_
  obtain ⟨tt29,htt29⟩:∃ y:ByteArray,y=t++tt28:=⟨_,rfl⟩
  have hstt29:tt29.size=t.size+tt28.size:=by rw[htt29];exact aw _ _
  rintro _ w36 ⟨rfl,ra15,rc15,S93⟩
  rw[show t++tt28=tt29 from htt29.symm] at S93
  replace S93:Sep w [box b2 [.pointer (some ⟨b2,0,none⟩),.slice ra15 ((ls tt29).length) rc15] 50,aa ba ra15 rc15 5 1 (ls tt29),box b6 [.int .i64 ((c.ab.getD (i).toNat (⟨0,0,0,0,0⟩:Mv)).aC),.int .i64 ((c.ab.getD (i).toNat (⟨0,0,0,0,0⟩:Mv)).gTo),.int .i64 ((c.ab.getD (i).toNat (⟨0,0,0,0,0⟩:Mv)).gOn),.int .i64 ((c.ab.getD (i).toNat (⟨0,0,0,0,0⟩:Mv)).aN),.int .i64 ((c.ab.getD (i).toNat (⟨0,0,0,0,0⟩:Mv)).ax)] 57,box b1 [.slice c.al c.aj c.ao,.slice c.ak c.af c.am,.int .i64 c.av,.slice c.aq c.ai c.au] 25] w36:=S93
  have S94:=S93.front 1 rfl
  clear S93
  have S95:Sep w [box b6 [.int .i64 ((c.ab.getD (i).toNat (⟨0,0,0,0,0⟩:Mv)).aC),.int .i64 ((c.ab.getD (i).toNat (⟨0,0,0,0,0⟩:Mv)).gTo),.int .i64 ((c.ab.getD (i).toNat (⟨0,0,0,0,0⟩:Mv)).gOn),.int .i64 ((c.ab.getD (i).toNat (⟨0,0,0,0,0⟩:Mv)).aN),.int .i64 ((c.ab.getD (i).toNat (⟨0,0,0,0,0⟩:Mv)).ax)] 57,aa ba ra15 rc15 5 1 (ls tt29),box b2 [.pointer (some ⟨b2,0,none⟩),.slice ra15 ((ls tt29).length) rc15] 50,box b1 [.slice c.al c.aj c.ao,.slice c.ak c.af c.am,.int .i64 c.av,.slice c.aq c.ai c.au] 25] w36:=S94.front 2 rfl
  clear S94
  refine TL.done kr<|J.lb 8 [] [(7,.slice none 0 0)] [] S95 3 rfl 63 (.slice c.ak c.af c.am) ?_
  have S96:Sep w [aa (ah Value.string) none 0 9 1 ([]),box b6 [.int .i64 ((c.ab.getD (i).toNat (⟨0,0,0,0,0⟩:Mv)).aC),.int .i64 ((c.ab.getD (i).toNat (⟨0,0,0,0,0⟩:Mv)).gTo),.int .i64 ((c.ab.getD (i).toNat (⟨0,0,0,0,0⟩:Mv)).gOn),.int .i64 ((c.ab.getD (i).toNat (⟨0,0,0,0,0⟩:Mv)).aN),.int .i64 ((c.ab.getD (i).toNat (⟨0,0,0,0,0⟩:Mv)).ax)] 57,aa ba ra15 rc15 5 1 (ls tt29),box b2 [.pointer (some ⟨b2,0,none⟩),.slice ra15 ((ls tt29).length) rc15] 50,box b1 [.slice c.al c.aj c.ao,.slice c.ak c.af c.am,.int .i64 c.av,.slice c.aq c.ai c.au] 25] w36:=S95.nilRow 9 1
  have L6_5:∀ (mm_:Nat) (ca:Option Addr) (cc:Nat) (cl:List ByteArray) (j:Int) (w37:World),(0≤j)→(j≤(c.af:Int))→((cl).length≤(j).toNat)→(cl=cdOn c (c.ab.getD (i).toNat (⟨0,0,0,0,0⟩:Mv)) (j).toNat)→Sep w [aa (ah Value.string) ca cc 9 1 cl,box b6 [.int .i64 ((c.ab.getD (i).toNat (⟨0,0,0,0,0⟩:Mv)).aC),.int .i64 ((c.ab.getD (i).toNat (⟨0,0,0,0,0⟩:Mv)).gTo),.int .i64 ((c.ab.getD (i).toNat (⟨0,0,0,0,0⟩:Mv)).gOn),.int .i64 ((c.ab.getD (i).toNat (⟨0,0,0,0,0⟩:Mv)).aN),.int .i64 ((c.ab.getD (i).toNat (⟨0,0,0,0,0⟩:Mv)).ax)] 57,aa ba ra15 rc15 5 1 (ls tt29),box b2 [.pointer (some ⟨b2,0,none⟩),.slice ra15 ((ls tt29).length) rc15] 50,box b1 [.slice c.al c.aj c.ao,.slice c.ak c.af c.am,.int .i64 c.av,.slice c.aq c.ai c.au] 25] w37→((c.af:Int)-j).toNat=mm_→J prog 6 119 R K6_4 [(65,.int .i64 j),(64,.int .i64 (c.af:Int)),(63,.slice c.ak c.af c.am),(7,.slice ca cl.length cc),(6,.pointer (some ⟨b6,0,none⟩)),(43,.int .i64 i),(42,.int .i64 (c.ai:Int)),(41,.slice c.aq c.ai c.au),(4,.pointer (some ⟨b2,0,none⟩)),(1,.pointer (some ⟨b1,0,none⟩))] w37:=by
   intro mm5
   induction mm5 using Nat.strongRecOn with
   | _ mm5 ih5 =>
   intro ca cc cl j w37 j0 j1 jl hcl S97 hm5
   refine J.c 5 [] [] [] 66 (j<(c.af:Int)) (fun fk12=>?_) fun fk12=>?_
   have hx4:=hvi j.toNat
   refine J.r 7 [true] [(67,.int .i64 j)] [] ?_
   obtain ⟨p11,hp11,hc11⟩:=q5.at ByteArray.empty (j).toNat om
   have hel11:=bu q6 ByteArray.empty (n:=(j).toNat) (by have:=q5.len_eq;omega)
   refine J.ok (OK.index 68 22 1 c.ak p11 c.af (j).toNat j (p11.add (j).toNat) kr kr hp11 om om nO)<|J.ok (OK.ldCell 69 9 (p11.add (j).toNat) (.string (c.ay.getD (j).toNat ByteArray.empty)) kr kr (S97.cell hc11))<|J.lb 6 [] [(9,.string (c.ay.getD (j).toNat ByteArray.empty)),(8,.int .i64 j)] [] S97 1 rfl 71 (.int .i64 ((c.ab.getD (i).toNat (⟨0,0,0,0,0⟩:Mv)).gOn))<|J.r 1 [] [(72,.int .i64 j)] []<|J.ok (OK.shr 73 .i64 ((c.ab.getD (i).toNat (⟨0,0,0,0,0⟩:Mv)).gOn) j (Int.fdiv ((c.ab.getD (i).toNat (⟨0,0,0,0,0⟩:Mv)).gOn) (2^(min (j).toNat 64))) kr om (rfl))<|J.h 1 [] [] [] 74 (.int .i64 (IntKind.wrap .i64 ((BitVec.ofInt 64 (Int.fdiv ((c.ab.getD (i).toNat (⟨0,0,0,0,0⟩:Mv)).gOn) (2^(min (j).toNat 64))) &&& (BitVec.ofInt 64 (1:Int))).toNat:Int))) (.int .i64 ((Int.fdiv ((c.ab.getD (i).toNat (⟨0,0,0,0,0⟩:Mv)).gOn) (2^(min (j).toNat 64)))%2)) (congrArg (Value.int .i64) (bi 1 _ _ rF dE))<|J.c 2 [] [] [] 75 (((Int.fdiv ((c.ab.getD (i).toNat (⟨0,0,0,0,0⟩:Mv)).gOn) (2^(min (j).toNat 64)))%2)=1) (fun fk13=>?_) fun fk13=>?_
   refine J.r 4 [true] [(77,.string (c.ay.getD (j).toNat ByteArray.empty)),(76,.slice ca cl.length cc)] []<|J.newSlice S97 78 1 [.string (c.ay.getD (j).toNat ByteArray.empty)] 9 kr ?_
   intro b7 w38 S98
   refine J.append (ah Value.string) S98 1 cl (c.ay.getD (j).toNat ByteArray.empty) 79 22 (.string ByteArray.empty) 16 ⟨b7,0,none⟩ 1 rfl kr kr kr kr dE (aU (S98.nth 0 rfl)) kr kr (⟨om,om⟩) ?_
   intro ra16 rc16 w39 S99
   replace S99:Sep w [box b7 [.string (c.ay.getD (j).toNat ByteArray.empty)] 9,aa (ah Value.string) ra16 rc16 9 1 (cl++[(c.ay.getD (j).toNat ByteArray.empty)]),box b6 [.int .i64 ((c.ab.getD (i).toNat (⟨0,0,0,0,0⟩:Mv)).aC),.int .i64 ((c.ab.getD (i).toNat (⟨0,0,0,0,0⟩:Mv)).gTo),.int .i64 ((c.ab.getD (i).toNat (⟨0,0,0,0,0⟩:Mv)).gOn),.int .i64 ((c.ab.getD (i).toNat (⟨0,0,0,0,0⟩:Mv)).aN),.int .i64 ((c.ab.getD (i).toNat (⟨0,0,0,0,0⟩:Mv)).ax)] 57,aa ba ra15 rc15 5 1 (ls tt29),box b2 [.pointer (some ⟨b2,0,none⟩),.slice ra15 ((ls tt29).length) rc15] 50,box b1 [.slice c.al c.aj c.ao,.slice c.ak c.af c.am,.int .i64 c.av,.slice c.aq c.ai c.au] 25] w39:=S99
   exact J.wi 5 [] [(7,.slice ra16 ((cl++[(c.ay.getD (j).toNat ByteArray.empty)]).length) rc16)] [] 80 (j+1)<|J.t 3 (ih5 _ (show((c.af:Int)-(j+1)).toNat<mm5 from by omega) ra16 rc16 (cl++[(c.ay.getD (j).toNat ByteArray.empty)]) (j+1) w39 om om (by (try rw[List.length_append,List.length_singleton]);omega) (by rw[cdOn_go j0 fk13,← hcl]) (S99.erase 0) rfl)
   exact J.wi 5 [false] [] [] 80 (j+1)<|J.t 3 (ih5 _ (show((c.af:Int)-(j+1)).toNat<mm5 from by omega) ca cc cl (j+1) w37 om om (by (try rw[List.length_append,List.length_singleton]);omega) (by rw[cdOn_no j0 fk13,← hcl]) S97 rfl)
   refine J.lb 6 [false] [] [] S97 4 rfl 82 (.slice c.ak c.af c.am) ?_
   have L6_6:∀ (mm_:Nat) (ca2:Option Addr) (cc2:Nat) (cl2:List ByteArray) (j2:Int) (w40:World),(0≤j2)→(j2≤(c.af:Int))→((cl2).length≤(c.ay.length+(j2).toNat))→(cl2=cdOff c (c.ab.getD (i).toNat (⟨0,0,0,0,0⟩:Mv)) (j2).toNat)→Sep w [aa (ah Value.string) ca2 cc2 9 1 cl2,box b6 [.int .i64 ((c.ab.getD (i).toNat (⟨0,0,0,0,0⟩:Mv)).aC),.int .i64 ((c.ab.getD (i).toNat (⟨0,0,0,0,0⟩:Mv)).gTo),.int .i64 ((c.ab.getD (i).toNat (⟨0,0,0,0,0⟩:Mv)).gOn),.int .i64 ((c.ab.getD (i).toNat (⟨0,0,0,0,0⟩:Mv)).aN),.int .i64 ((c.ab.getD (i).toNat (⟨0,0,0,0,0⟩:Mv)).ax)] 57,aa ba ra15 rc15 5 1 (ls tt29),box b2 [.pointer (some ⟨b2,0,none⟩),.slice ra15 ((ls tt29).length) rc15] 50,box b1 [.slice c.al c.aj c.ao,.slice c.ak c.af c.am,.int .i64 c.av,.slice c.aq c.ai c.au] 25] w40→((c.af:Int)-j2).toNat=mm_→J prog 6 119 R K6_5 [(84,.int .i64 j2),(83,.int .i64 (c.af:Int)),(82,.slice c.ak c.af c.am),(7,.slice ca2 cl2.length cc2),(6,.pointer (some ⟨b6,0,none⟩)),(43,.int .i64 i),(42,.int .i64 (c.ai:Int)),(41,.slice c.aq c.ai c.au),(4,.pointer (some ⟨b2,0,none⟩)),(1,.pointer (some ⟨b1,0,none⟩))] w40:=by
    intro mm6
    induction mm6 using Nat.strongRecOn with
    | _ mm6 ih6 =>
    intro ca2 cc2 cl2 j2 w40 j02 j12 jl2 hcl2 S100 hm6
    refine J.c 5 [] [] [] 85 (j2<(c.af:Int)) (fun fk14=>?_) fun fk14=>?_
    have hx4:=hvi j2.toNat
    refine J.r 7 [true] [(86,.int .i64 j2)] [] ?_
    obtain ⟨p12,hp12,hc12⟩:=q5.at ByteArray.empty (j2).toNat om
    have hel12:=bu q6 ByteArray.empty (n:=(j2).toNat) (by have:=q5.len_eq;omega)
    refine J.ok (OK.index 87 22 1 c.ak p12 c.af (j2).toNat j2 (p12.add (j2).toNat) kr kr hp12 om om nO)<|J.ok (OK.ldCell 88 9 (p12.add (j2).toNat) (.string (c.ay.getD (j2).toNat ByteArray.empty)) kr kr (S100.cell hc12))<|J.lb 6 [] [(11,.string (c.ay.getD (j2).toNat ByteArray.empty)),(10,.int .i64 j2)] [] S100 1 rfl 90 (.int .i64 ((c.ab.getD (i).toNat (⟨0,0,0,0,0⟩:Mv)).aN))<|J.r 1 [] [(91,.int .i64 j2)] []<|J.ok (OK.shr 92 .i64 ((c.ab.getD (i).toNat (⟨0,0,0,0,0⟩:Mv)).aN) j2 (Int.fdiv ((c.ab.getD (i).toNat (⟨0,0,0,0,0⟩:Mv)).aN) (2^(min (j2).toNat 64))) kr om (rfl))<|J.h 1 [] [] [] 93 (.int .i64 (IntKind.wrap .i64 ((BitVec.ofInt 64 (Int.fdiv ((c.ab.getD (i).toNat (⟨0,0,0,0,0⟩:Mv)).aN) (2^(min (j2).toNat 64))) &&& (BitVec.ofInt 64 (1:Int))).toNat:Int))) (.int .i64 ((Int.fdiv ((c.ab.getD (i).toNat (⟨0,0,0,0,0⟩:Mv)).aN) (2^(min (j2).toNat 64)))%2)) (congrArg (Value.int .i64) (bi 1 _ _ rF dE))<|J.c 2 [] [] [] 94 (((Int.fdiv ((c.ab.getD (i).toNat (⟨0,0,0,0,0⟩:Mv)).aN) (2^(min (j2).toNat 64)))%2)=1) (fun fk15=>?_) fun fk15=>?_
    refine J.r 4 [true] [(96,.string (c.ay.getD (j2).toNat ByteArray.empty)),(95,.slice ca2 cl2.length cc2)] [] ?_
    obtain ⟨tt30,htt30⟩:∃ y:ByteArray,y=(⟨#[110,111,116,32]⟩:ByteArray)++(c.ay.getD (j2).toNat ByteArray.empty):=⟨_,rfl⟩
    have hstt30:tt30.size=4+(c.ay.getD (j2).toNat ByteArray.empty).size:=by rw[htt30];exact aw _ _
    refine J.ok (OK.cat 97 (⟨#[110,111,116,32]⟩:ByteArray) (c.ay.getD (j2).toNat ByteArray.empty) tt30 kr (by rw[← aw,← htt30];omega) (htt30.symm))<|J.newSlice S100 98 1 [.string tt30] 9 kr ?_
    intro b8 w41 S101
    refine J.append (ah Value.string) S101 1 cl2 tt30 99 22 (.string ByteArray.empty) 16 ⟨b8,0,none⟩ 1 rfl kr kr kr kr dE (aU (S101.nth 0 rfl)) kr kr (⟨om,om⟩) ?_
    intro ra17 rc17 w42 S102
    replace S102:Sep w [box b8 [.string tt30] 9,aa (ah Value.string) ra17 rc17 9 1 (cl2++[tt30]),box b6 [.int .i64 ((c.ab.getD (i).toNat (⟨0,0,0,0,0⟩:Mv)).aC),.int .i64 ((c.ab.getD (i).toNat (⟨0,0,0,0,0⟩:Mv)).gTo),.int .i64 ((c.ab.getD (i).toNat (⟨0,0,0,0,0⟩:Mv)).gOn),.int .i64 ((c.ab.getD (i).toNat (⟨0,0,0,0,0⟩:Mv)).aN),.int .i64 ((c.ab.getD (i).toNat (⟨0,0,0,0,0⟩:Mv)).ax)] 57,aa ba ra15 rc15 5 1 (ls tt29),box b2 [.pointer (some ⟨b2,0,none⟩),.slice ra15 ((ls tt29).length) rc15] 50,box b1 [.slice c.al c.aj c.ao,.slice c.ak c.af c.am,.int .i64 c.av,.slice c.aq c.ai c.au] 25] w42:=S102
    exact J.wi 5 [] [(7,.slice ra17 ((cl2++[tt30]).length) rc17)] [] 100 (j2+1)<|J.t 3 (ih6 _ (show((c.af:Int)-(j2+1)).toNat<mm6 from by omega) ra17 rc17 (cl2++[tt30]) (j2+1) w42 om om (by (try rw[List.length_append,List.length_singleton]);omega) (by rw[cdOff_go j02 fk15,← hcl2];simp only[htt27,htt28,htt29,htt30]) (S102.erase 0) rfl)
    exact J.wi 5 [false] [] [] 100 (j2+1)<|J.t 3 (ih6 _ (show((c.af:Int)-(j2+1)).toNat<mm6 from by omega) ca2 cc2 cl2 (j2+1) w40 om om (by (try rw[List.length_append,List.length_singleton]);omega) (by rw[cdOff_no j02 fk15,← hcl2]) S100 rfl)
    refine J.c 9 [false] [] [] 103 ((cl2.length:Int)>0) (fun fk16=>?_) fun fk16=>?_
    refine J.r 3 [true] [(104,.slice ca2 cl2.length cc2)] [] ?_
    have:=aQ (S100.nth 0 rfl)
    refine J.c0 0 [] [] [] S100 105 hb19 (join_all ca2 cl2.length cc2 cl2 (⟨#[44,32]⟩:ByteArray) _ ((aR (S100.nth 0 rfl) cl2.length rO)) (co (S100.nth 0 rfl)).2.2 om (Nat.le_trans (by rw[← bY (n:=0) hcl2 om];exact cd_room hv om (c.ab.getD (i).toNat (⟨0,0,0,0,0⟩:Mv)):(bK cl2 (⟨#[44,32]⟩:ByteArray)).size≤600) dE)) fun w43 S103=>?_
    have:=(by rw[← bY (n:=0) hcl2 om];exact cd_room hv om (c.ab.getD (i).toNat (⟨0,0,0,0,0⟩:Mv)):(bK cl2 (⟨#[44,32]⟩:ByteArray)).size≤600)
    obtain ⟨tt31,htt31⟩:∃ y:ByteArray,y=(⟨#[32,105,102,32]⟩:ByteArray)++(bK cl2 (⟨#[44,32]⟩:ByteArray)):=⟨_,rfl⟩
    have hstt31:tt31.size=4+(bK cl2 (⟨#[44,32]⟩:ByteArray)).size:=by rw[htt31];exact aw _ _
    refine J.ok (OK.cat 106 (⟨#[32,105,102,32]⟩:ByteArray) (bK cl2 (⟨#[44,32]⟩:ByteArray)) tt31 kr (by rw[← aw,← htt31];omega) (htt31.symm)) ?_
    have S104:=S103.front 2 rfl
    have S105:Sep w [box b2 [.pointer (some ⟨b2,0,none⟩),.slice ra15 ((ls tt29).length) rc15] 50,aa ba ra15 rc15 5 1 (ls tt29),aa (ah Value.string) ca2 cc2 9 1 cl2,box b6 [.int .i64 ((c.ab.getD (i).toNat (⟨0,0,0,0,0⟩:Mv)).aC),.int .i64 ((c.ab.getD (i).toNat (⟨0,0,0,0,0⟩:Mv)).gTo),.int .i64 ((c.ab.getD (i).toNat (⟨0,0,0,0,0⟩:Mv)).gOn),.int .i64 ((c.ab.getD (i).toNat (⟨0,0,0,0,0⟩:Mv)).aN),.int .i64 ((c.ab.getD (i).toNat (⟨0,0,0,0,0⟩:Mv)).ax)] 57,box b1 [.slice c.al c.aj c.ao,.slice c.ak c.af c.am,.int .i64 c.av,.slice c.aq c.ai c.au] 25] w43:=S104.front 3 rfl
    refine J.callF 107 18 #[.pointer (some ⟨b2,0,none⟩),.string tt31] hb18 kr (bm b2 (some ⟨b2,0,none⟩) ra15 rc15 tt29 tt31 _ _ _ S105 (by first | assumption | exact .inl rfl | exact .inr rfl) om) ?_
    obtain ⟨tt32,htt32⟩:∃ y:ByteArray,y=tt29++tt31:=⟨_,rfl⟩
    have hstt32:tt32.size=tt29.size+tt31.size:=by rw[htt32];exact aw _ _
    rintro _ w44 ⟨rfl,ra18,rc18,S106⟩
    rw[show tt29++tt31=tt32 from htt32.symm] at S106
    replace S106:Sep w [box b2 [.pointer (some ⟨b2,0,none⟩),.slice ra18 ((ls tt32).length) rc18] 50,aa ba ra18 rc18 5 1 (ls tt32),aa (ah Value.string) ca2 cc2 9 1 cl2,box b6 [.int .i64 ((c.ab.getD (i).toNat (⟨0,0,0,0,0⟩:Mv)).aC),.int .i64 ((c.ab.getD (i).toNat (⟨0,0,0,0,0⟩:Mv)).gTo),.int .i64 ((c.ab.getD (i).toNat (⟨0,0,0,0,0⟩:Mv)).gOn),.int .i64 ((c.ab.getD (i).toNat (⟨0,0,0,0,0⟩:Mv)).aN),.int .i64 ((c.ab.getD (i).toNat (⟨0,0,0,0,0⟩:Mv)).ax)] 57,box b1 [.slice c.al c.aj c.ao,.slice c.ak c.af c.am,.int .i64 c.av,.slice c.aq c.ai c.au] 25] w44:=S106
    have S107:=S106.front 1 rfl
    have S108:=S107.front 3 rfl
    have S109:Sep w [aa (ah Value.string) ca2 cc2 9 1 cl2,box b6 [.int .i64 ((c.ab.getD (i).toNat (⟨0,0,0,0,0⟩:Mv)).aC),.int .i64 ((c.ab.getD (i).toNat (⟨0,0,0,0,0⟩:Mv)).gTo),.int .i64 ((c.ab.getD (i).toNat (⟨0,0,0,0,0⟩:Mv)).gOn),.int .i64 ((c.ab.getD (i).toNat (⟨0,0,0,0,0⟩:Mv)).aN),.int .i64 ((c.ab.getD (i).toNat (⟨0,0,0,0,0⟩:Mv)).ax)] 57,aa ba ra18 rc18 5 1 (ls tt32),box b2 [.pointer (some ⟨b2,0,none⟩),.slice ra18 ((ls tt32).length) rc18] 50,box b1 [.slice c.al c.aj c.ao,.slice c.ak c.af c.am,.int .i64 c.av,.slice c.aq c.ai c.au] 25] w44:=S108.front 3 rfl
    refine J.lb 5 [] [] [] S109 1 rfl 109 (.int .i64 ((c.ab.getD (i).toNat (⟨0,0,0,0,0⟩:Mv)).ax))<|J.c 2 [] [] [] 110 (((c.ab.getD (i).toNat (⟨0,0,0,0,0⟩:Mv)).ax)>0) (fun fk17=>?_) fun fk17=>?_
    refine J.lb 3 [true] [] [] S109 1 rfl 112 (.int .i64 ((c.ab.getD (i).toNat (⟨0,0,0,0,0⟩:Mv)).ax))<|J.c0 0 [] [] [] S109 113 hb20 (itoa_any ((c.ab.getD (i).toNat (⟨0,0,0,0,0⟩:Mv)).ax) _ om (cv hW S109)) fun w45 S110=>?_
    have:=bE (n:=((c.ab.getD (i).toNat (⟨0,0,0,0,0⟩:Mv)).ax)) om
    obtain ⟨tt33,htt33⟩:∃ y:ByteArray,y=(⟨#[32,97,102,116,101,114,32]⟩:ByteArray)++(bL ((c.ab.getD (i).toNat (⟨0,0,0,0,0⟩:Mv)).ax)):=⟨_,rfl⟩
    have hstt33:tt33.size=7+(bL ((c.ab.getD (i).toNat (⟨0,0,0,0,0⟩:Mv)).ax)).size:=by rw[htt33];exact aw _ _
    refine J.ok (OK.cat 114 (⟨#[32,97,102,116,101,114,32]⟩:ByteArray) (bL ((c.ab.getD (i).toNat (⟨0,0,0,0,0⟩:Mv)).ax)) tt33 kr (by rw[← aw,← htt33];omega) (htt33.symm)) ?_
    have S111:=S110.front 2 rfl
    have S112:Sep w [box b2 [.pointer (some ⟨b2,0,none⟩),.slice ra18 ((ls tt32).length) rc18] 50,aa ba ra18 rc18 5 1 (ls tt32),aa (ah Value.string) ca2 cc2 9 1 cl2,box b6 [.int .i64 ((c.ab.getD (i).toNat (⟨0,0,0,0,0⟩:Mv)).aC),.int .i64 ((c.ab.getD (i).toNat (⟨0,0,0,0,0⟩:Mv)).gTo),.int .i64 ((c.ab.getD (i).toNat (⟨0,0,0,0,0⟩:Mv)).gOn),.int .i64 ((c.ab.getD (i).toNat (⟨0,0,0,0,0⟩:Mv)).aN),.int .i64 ((c.ab.getD (i).toNat (⟨0,0,0,0,0⟩:Mv)).ax)] 57,box b1 [.slice c.al c.aj c.ao,.slice c.ak c.af c.am,.int .i64 c.av,.slice c.aq c.ai c.au] 25] w45:=S111.front 3 rfl
    refine J.callF 115 18 #[.pointer (some ⟨b2,0,none⟩),.string tt33] hb18 kr (bm b2 (some ⟨b2,0,none⟩) ra18 rc18 tt32 tt33 _ _ _ S112 (by first | assumption | exact .inl rfl | exact .inr rfl) om) ?_
    obtain ⟨tt34,htt34⟩:∃ y:ByteArray,y=tt32++tt33:=⟨_,rfl⟩
    have hstt34:tt34.size=tt32.size+tt33.size:=by rw[htt34];exact aw _ _
    rintro _ w46 ⟨rfl,ra19,rc19,S113⟩
    rw[show tt32++tt33=tt34 from htt34.symm] at S113
    replace S113:Sep w [box b2 [.pointer (some ⟨b2,0,none⟩),.slice ra19 ((ls tt34).length) rc19] 50,aa ba ra19 rc19 5 1 (ls tt34),aa (ah Value.string) ca2 cc2 9 1 cl2,box b6 [.int .i64 ((c.ab.getD (i).toNat (⟨0,0,0,0,0⟩:Mv)).aC),.int .i64 ((c.ab.getD (i).toNat (⟨0,0,0,0,0⟩:Mv)).gTo),.int .i64 ((c.ab.getD (i).toNat (⟨0,0,0,0,0⟩:Mv)).gOn),.int .i64 ((c.ab.getD (i).toNat (⟨0,0,0,0,0⟩:Mv)).aN),.int .i64 ((c.ab.getD (i).toNat (⟨0,0,0,0,0⟩:Mv)).ax)] 57,box b1 [.slice c.al c.aj c.ao,.slice c.ak c.af c.am,.int .i64 c.av,.slice c.aq c.ai c.au] 25] w46:=S113
    have S114:=S113.front 1 rfl
    have S115:=S114.front 3 rfl
    have S116:Sep w [aa (ah Value.string) ca2 cc2 9 1 cl2,box b6 [.int .i64 ((c.ab.getD (i).toNat (⟨0,0,0,0,0⟩:Mv)).aC),.int .i64 ((c.ab.getD (i).toNat (⟨0,0,0,0,0⟩:Mv)).gTo),.int .i64 ((c.ab.getD (i).toNat (⟨0,0,0,0,0⟩:Mv)).gOn),.int .i64 ((c.ab.getD (i).toNat (⟨0,0,0,0,0⟩:Mv)).aN),.int .i64 ((c.ab.getD (i).toNat (⟨0,0,0,0,0⟩:Mv)).ax)] 57,aa ba ra19 rc19 5 1 (ls tt34),box b2 [.pointer (some ⟨b2,0,none⟩),.slice ra19 ((ls tt34).length) rc19] 50,box b1 [.slice c.al c.aj c.ao,.slice c.ak c.af c.am,.int .i64 c.av,.slice c.aq c.ai c.au] 25] w46:=S115.front 3 rfl
    refine J.r 2 [] [] [] ?_
    have S117:=S116.front 2 rfl
    have S118:Sep w [box b2 [.pointer (some ⟨b2,0,none⟩),.slice ra19 ((ls tt34).length) rc19] 50,aa ba ra19 rc19 5 1 (ls tt34),aa (ah Value.string) ca2 cc2 9 1 cl2,box b6 [.int .i64 ((c.ab.getD (i).toNat (⟨0,0,0,0,0⟩:Mv)).aC),.int .i64 ((c.ab.getD (i).toNat (⟨0,0,0,0,0⟩:Mv)).gTo),.int .i64 ((c.ab.getD (i).toNat (⟨0,0,0,0,0⟩:Mv)).gOn),.int .i64 ((c.ab.getD (i).toNat (⟨0,0,0,0,0⟩:Mv)).aN),.int .i64 ((c.ab.getD (i).toNat (⟨0,0,0,0,0⟩:Mv)).ax)] 57,box b1 [.slice c.al c.aj c.ao,.slice c.ak c.af c.am,.int .i64 c.av,.slice c.aq c.ai c.au] 25] w46:=S117.front 3 rfl
    have hz1:(⟨#[10]⟩:ByteArray).size=1:=rfl
    refine J.callF 116 18 #[.pointer (some ⟨b2,0,none⟩),.string ⟨#[10]⟩] hb18 kr (bm b2 (some ⟨b2,0,none⟩) ra19 rc19 tt34 (⟨#[10]⟩:ByteArray) _ _ _ S118 (by first | assumption | exact .inl rfl | exact .inr rfl) om) ?_
    obtain ⟨tt35,htt35⟩:∃ y:ByteArray,y=tt34++(⟨#[10]⟩:ByteArray):=⟨_,rfl⟩
    have hstt35:tt35.size=tt34.size+1:=by rw[htt35];exact aw _ _
    rintro _ w47 ⟨rfl,ra20,rc20,S119⟩
    rw[show tt34++(⟨#[10]⟩:ByteArray)=tt35 from htt35.symm] at S119
    replace S119:Sep w [box b2 [.pointer (some ⟨b2,0,none⟩),.slice ra20 ((ls tt35).length) rc20] 50,aa ba ra20 rc20 5 1 (ls tt35),aa (ah Value.string) ca2 cc2 9 1 cl2,box b6 [.int .i64 ((c.ab.getD (i).toNat (⟨0,0,0,0,0⟩:Mv)).aC),.int .i64 ((c.ab.getD (i).toNat (⟨0,0,0,0,0⟩:Mv)).gTo),.int .i64 ((c.ab.getD (i).toNat (⟨0,0,0,0,0⟩:Mv)).gOn),.int .i64 ((c.ab.getD (i).toNat (⟨0,0,0,0,0⟩:Mv)).aN),.int .i64 ((c.ab.getD (i).toNat (⟨0,0,0,0,0⟩:Mv)).ax)] 57,box b1 [.slice c.al c.aj c.ao,.slice c.ak c.af c.am,.int .i64 c.av,.slice c.aq c.ai c.au] 25] w47:=S119
    have S120:=S119.front 1 rfl
    have S121:=S120.front 3 rfl
    have S122:Sep w [aa (ah Value.string) ca2 cc2 9 1 cl2,box b6 [.int .i64 ((c.ab.getD (i).toNat (⟨0,0,0,0,0⟩:Mv)).aC),.int .i64 ((c.ab.getD (i).toNat (⟨0,0,0,0,0⟩:Mv)).gTo),.int .i64 ((c.ab.getD (i).toNat (⟨0,0,0,0,0⟩:Mv)).gOn),.int .i64 ((c.ab.getD (i).toNat (⟨0,0,0,0,0⟩:Mv)).aN),.int .i64 ((c.ab.getD (i).toNat (⟨0,0,0,0,0⟩:Mv)).ax)] 57,aa ba ra20 rc20 5 1 (ls tt35),box b2 [.pointer (some ⟨b2,0,none⟩),.slice ra20 ((ls tt35).length) rc20] 50,box b1 [.slice c.al c.aj c.ao,.slice c.ak c.af c.am,.int .i64 c.av,.slice c.aq c.ai c.au] 25] w47:=S121.front 3 rfl
    exact J.wi 4 [] [] [] 117 (i+1)<|J.t 3 (ih4 _ (show((c.ai:Int)-(i+1)).toNat<mm4 from by omega) ra20 rc20 tt35 (i+1) w47 om om (by rw[bG h0,← ht];simp only[htt27,htt28,htt29,htt31,htt32,htt33,htt34,htt35];exact mv_11 (cdT_yes (bY (n:=0) hcl2 om) om) (afT_yes om)) ((S122.erase 1).erase 0) rfl)
    refine J.r 3 [false] [] [] ?_
    have S123:=S109.front 2 rfl
    have S124:Sep w [box b2 [.pointer (some ⟨b2,0,none⟩),.slice ra18 ((ls tt32).length) rc18] 50,aa ba ra18 rc18 5 1 (ls tt32),aa (ah Value.string) ca2 cc2 9 1 cl2,box b6 [.int .i64 ((c.ab.getD (i).toNat (⟨0,0,0,0,0⟩:Mv)).aC),.int .i64 ((c.ab.getD (i).toNat (⟨0,0,0,0,0⟩:Mv)).gTo),.int .i64 ((c.ab.getD (i).toNat (⟨0,0,0,0,0⟩:Mv)).gOn),.int .i64 ((c.ab.getD (i).toNat (⟨0,0,0,0,0⟩:Mv)).aN),.int .i64 ((c.ab.getD (i).toNat (⟨0,0,0,0,0⟩:Mv)).ax)] 57,box b1 [.slice c.al c.aj c.ao,.slice c.ak c.af c.am,.int .i64 c.av,.slice c.aq c.ai c.au] 25] w44:=S123.front 3 rfl
    have hz1:(⟨#[10]⟩:ByteArray).size=1:=rfl
    refine J.callF 116 18 #[.pointer (some ⟨b2,0,none⟩),.string ⟨#[10]⟩] hb18 kr (bm b2 (some ⟨b2,0,none⟩) ra18 rc18 tt32 (⟨#[10]⟩:ByteArray) _ _ _ S124 (by first | assumption | exact .inl rfl | exact .inr rfl) om) ?_
    obtain ⟨tt36,htt36⟩:∃ y:ByteArray,y=tt32++(⟨#[10]⟩:ByteArray):=⟨_,rfl⟩
    have hstt36:tt36.size=tt32.size+1:=by rw[htt36];exact aw _ _
    rintro _ w48 ⟨rfl,ra21,rc21,S125⟩
    rw[show tt32++(⟨#[10]⟩:ByteArray)=tt36 from htt36.symm] at S125
    replace S125:Sep w [box b2 [.pointer (some ⟨b2,0,none⟩),.slice ra21 ((ls tt36).length) rc21] 50,aa ba ra21 rc21 5 1 (ls tt36),aa (ah Value.string) ca2 cc2 9 1 cl2,box b6 [.int .i64 ((c.ab.getD (i).toNat (⟨0,0,0,0,0⟩:Mv)).aC),.int .i64 ((c.ab.getD (i).toNat (⟨0,0,0,0,0⟩:Mv)).gTo),.int .i64 ((c.ab.getD (i).toNat (⟨0,0,0,0,0⟩:Mv)).gOn),.int .i64 ((c.ab.getD (i).toNat (⟨0,0,0,0,0⟩:Mv)).aN),.int .i64 ((c.ab.getD (i).toNat (⟨0,0,0,0,0⟩:Mv)).ax)] 57,box b1 [.slice c.al c.aj c.ao,.slice c.ak c.af c.am,.int .i64 c.av,.slice c.aq c.ai c.au] 25] w48:=S125
    have S126:=S125.front 1 rfl
    have S127:=S126.front 3 rfl
    have S128:Sep w [aa (ah Value.string) ca2 cc2 9 1 cl2,box b6 [.int .i64 ((c.ab.getD (i).toNat (⟨0,0,0,0,0⟩:Mv)).aC),.int .i64 ((c.ab.getD (i).toNat (⟨0,0,0,0,0⟩:Mv)).gTo),.int .i64 ((c.ab.getD (i).toNat (⟨0,0,0,0,0⟩:Mv)).gOn),.int .i64 ((c.ab.getD (i).toNat (⟨0,0,0,0,0⟩:Mv)).aN),.int .i64 ((c.ab.getD (i).toNat (⟨0,0,0,0,0⟩:Mv)).ax)] 57,aa ba ra21 rc21 5 1 (ls tt36),box b2 [.pointer (some ⟨b2,0,none⟩),.slice ra21 ((ls tt36).length) rc21] 50,box b1 [.slice c.al c.aj c.ao,.slice c.ak c.af c.am,.int .i64 c.av,.slice c.aq c.ai c.au] 25] w48:=S127.front 3 rfl
    exact J.wi 4 [] [] [] 117 (i+1)<|J.t 3 (ih4 _ (show((c.ai:Int)-(i+1)).toNat<mm4 from by omega) ra21 rc21 tt36 (i+1) w48 om om (by rw[bG h0,← ht];simp only[htt27,htt28,htt29,htt31,htt32,htt36];exact mv_10 (cdT_yes (bY (n:=0) hcl2 om) om) (afT_no om)) ((S128.erase 1).erase 0) rfl)
    refine J.lb 6 [false] [] [] S100 1 rfl 109 (.int .i64 ((c.ab.getD (i).toNat (⟨0,0,0,0,0⟩:Mv)).ax))<|J.c 2 [] [] [] 110 (((c.ab.getD (i).toNat (⟨0,0,0,0,0⟩:Mv)).ax)>0) (fun fk18=>?_) fun fk18=>?_
    refine J.lb 3 [true] [] [] S100 1 rfl 112 (.int .i64 ((c.ab.getD (i).toNat (⟨0,0,0,0,0⟩:Mv)).ax))<|J.c0 0 [] [] [] S100 113 hb20 (itoa_any ((c.ab.getD (i).toNat (⟨0,0,0,0,0⟩:Mv)).ax) _ om (cv hW S100)) fun w49 S129=>?_
    have:=bE (n:=((c.ab.getD (i).toNat (⟨0,0,0,0,0⟩:Mv)).ax)) om
    obtain ⟨tt37,htt37⟩:∃ y:ByteArray,y=(⟨#[32,97,102,116,101,114,32]⟩:ByteArray)++(bL ((c.ab.getD (i).toNat (⟨0,0,0,0,0⟩:Mv)).ax)):=⟨_,rfl⟩
    have hstt37:tt37.size=7+(bL ((c.ab.getD (i).toNat (⟨0,0,0,0,0⟩:Mv)).ax)).size:=by rw[htt37];exact aw _ _
    refine J.ok (OK.cat 114 (⟨#[32,97,102,116,101,114,32]⟩:ByteArray) (bL ((c.ab.getD (i).toNat (⟨0,0,0,0,0⟩:Mv)).ax)) tt37 kr (by rw[← aw,← htt37];omega) (htt37.symm)) ?_
    have S130:=S129.front 2 rfl
    have S131:Sep w [box b2 [.pointer (some ⟨b2,0,none⟩),.slice ra15 ((ls tt29).length) rc15] 50,aa ba ra15 rc15 5 1 (ls tt29),aa (ah Value.string) ca2 cc2 9 1 cl2,box b6 [.int .i64 ((c.ab.getD (i).toNat (⟨0,0,0,0,0⟩:Mv)).aC),.int .i64 ((c.ab.getD (i).toNat (⟨0,0,0,0,0⟩:Mv)).gTo),.int .i64 ((c.ab.getD (i).toNat (⟨0,0,0,0,0⟩:Mv)).gOn),.int .i64 ((c.ab.getD (i).toNat (⟨0,0,0,0,0⟩:Mv)).aN),.int .i64 ((c.ab.getD (i).toNat (⟨0,0,0,0,0⟩:Mv)).ax)] 57,box b1 [.slice c.al c.aj c.ao,.slice c.ak c.af c.am,.int .i64 c.av,.slice c.aq c.ai c.au] 25] w49:=S130.front 3 rfl
    refine J.callF 115 18 #[.pointer (some ⟨b2,0,none⟩),.string tt37] hb18 kr (bm b2 (some ⟨b2,0,none⟩) ra15 rc15 tt29 tt37 _ _ _ S131 (by first | assumption | exact .inl rfl | exact .inr rfl) om) ?_
    obtain ⟨tt38,htt38⟩:∃ y:ByteArray,y=tt29++tt37:=⟨_,rfl⟩
    have hstt38:tt38.size=tt29.size+tt37.size:=by rw[htt38];exact aw _ _
    rintro _ w50 ⟨rfl,ra22,rc22,S132⟩
    rw[show tt29++tt37=tt38 from htt38.symm] at S132
    replace S132:Sep w [box b2 [.pointer (some ⟨b2,0,none⟩),.slice ra22 ((ls tt38).length) rc22] 50,aa ba ra22 rc22 5 1 (ls tt38),aa (ah Value.string) ca2 cc2 9 1 cl2,box b6 [.int .i64 ((c.ab.getD (i).toNat (⟨0,0,0,0,0⟩:Mv)).aC),.int .i64 ((c.ab.getD (i).toNat (⟨0,0,0,0,0⟩:Mv)).gTo),.int .i64 ((c.ab.getD (i).toNat (⟨0,0,0,0,0⟩:Mv)).gOn),.int .i64 ((c.ab.getD (i).toNat (⟨0,0,0,0,0⟩:Mv)).aN),.int .i64 ((c.ab.getD (i).toNat (⟨0,0,0,0,0⟩:Mv)).ax)] 57,box b1 [.slice c.al c.aj c.ao,.slice c.ak c.af c.am,.int .i64 c.av,.slice c.aq c.ai c.au] 25] w50:=S132
    have S133:=S132.front 1 rfl
    have S134:=S133.front 3 rfl
    have S135:Sep w [aa (ah Value.string) ca2 cc2 9 1 cl2,box b6 [.int .i64 ((c.ab.getD (i).toNat (⟨0,0,0,0,0⟩:Mv)).aC),.int .i64 ((c.ab.getD (i).toNat (⟨0,0,0,0,0⟩:Mv)).gTo),.int .i64 ((c.ab.getD (i).toNat (⟨0,0,0,0,0⟩:Mv)).gOn),.int .i64 ((c.ab.getD (i).toNat (⟨0,0,0,0,0⟩:Mv)).aN),.int .i64 ((c.ab.getD (i).toNat (⟨0,0,0,0,0⟩:Mv)).ax)] 57,aa ba ra22 rc22 5 1 (ls tt38),box b2 [.pointer (some ⟨b2,0,none⟩),.slice ra22 ((ls tt38).length) rc22] 50,box b1 [.slice c.al c.aj c.ao,.slice c.ak c.af c.am,.int .i64 c.av,.slice c.aq c.ai c.au] 25] w50:=S134.front 3 rfl
    refine J.r 2 [] [] [] ?_
    have S136:=S135.front 2 rfl
    have S137:Sep w [box b2 [.pointer (some ⟨b2,0,none⟩),.slice ra22 ((ls tt38).length) rc22] 50,aa ba ra22 rc22 5 1 (ls tt38),aa (ah Value.string) ca2 cc2 9 1 cl2,box b6 [.int .i64 ((c.ab.getD (i).toNat (⟨0,0,0,0,0⟩:Mv)).aC),.int .i64 ((c.ab.getD (i).toNat (⟨0,0,0,0,0⟩:Mv)).gTo),.int .i64 ((c.ab.getD (i).toNat (⟨0,0,0,0,0⟩:Mv)).gOn),.int .i64 ((c.ab.getD (i).toNat (⟨0,0,0,0,0⟩:Mv)).aN),.int .i64 ((c.ab.getD (i).toNat (⟨0,0,0,0,0⟩:Mv)).ax)] 57,box b1 [.slice c.al c.aj c.ao,.slice c.ak c.af c.am,.int .i64 c.av,.slice c.aq c.ai c.au] 25] w50:=S136.front 3 rfl
    have hz1:(⟨#[10]⟩:ByteArray).size=1:=rfl
    refine J.callF 116 18 #[.pointer (some ⟨b2,0,none⟩),.string ⟨#[10]⟩] hb18 kr (bm b2 (some ⟨b2,0,none⟩) ra22 rc22 tt38 (⟨#[10]⟩:ByteArray) _ _ _ S137 (by first | assumption | exact .inl rfl | exact .inr rfl) om) ?_
    obtain ⟨tt39,htt39⟩:∃ y:ByteArray,y=tt38++(⟨#[10]⟩:ByteArray):=⟨_,rfl⟩
    have hstt39:tt39.size=tt38.size+1:=by rw[htt39];exact aw _ _
    rintro _ w51 ⟨rfl,ra23,rc23,S138⟩
    rw[show tt38++(⟨#[10]⟩:ByteArray)=tt39 from htt39.symm] at S138
    replace S138:Sep w [box b2 [.pointer (some ⟨b2,0,none⟩),.slice ra23 ((ls tt39).length) rc23] 50,aa ba ra23 rc23 5 1 (ls tt39),aa (ah Value.string) ca2 cc2 9 1 cl2,box b6 [.int .i64 ((c.ab.getD (i).toNat (⟨0,0,0,0,0⟩:Mv)).aC),.int .i64 ((c.ab.getD (i).toNat (⟨0,0,0,0,0⟩:Mv)).gTo),.int .i64 ((c.ab.getD (i).toNat (⟨0,0,0,0,0⟩:Mv)).gOn),.int .i64 ((c.ab.getD (i).toNat (⟨0,0,0,0,0⟩:Mv)).aN),.int .i64 ((c.ab.getD (i).toNat (⟨0,0,0,0,0⟩:Mv)).ax)] 57,box b1 [.slice c.al c.aj c.ao,.slice c.ak c.af c.am,.int .i64 c.av,.slice c.aq c.ai c.au] 25] w51:=S138
    have S139:=S138.front 1 rfl
    have S140:=S139.front 3 rfl
    have S141:Sep w [aa (ah Value.string) ca2 cc2 9 1 cl2,box b6 [.int .i64 ((c.ab.getD (i).toNat (⟨0,0,0,0,0⟩:Mv)).aC),.int .i64 ((c.ab.getD (i).toNat (⟨0,0,0,0,0⟩:Mv)).gTo),.int .i64 ((c.ab.getD (i).toNat (⟨0,0,0,0,0⟩:Mv)).gOn),.int .i64 ((c.ab.getD (i).toNat (⟨0,0,0,0,0⟩:Mv)).aN),.int .i64 ((c.ab.getD (i).toNat (⟨0,0,0,0,0⟩:Mv)).ax)] 57,aa ba ra23 rc23 5 1 (ls tt39),box b2 [.pointer (some ⟨b2,0,none⟩),.slice ra23 ((ls tt39).length) rc23] 50,box b1 [.slice c.al c.aj c.ao,.slice c.ak c.af c.am,.int .i64 c.av,.slice c.aq c.ai c.au] 25] w51:=S140.front 3 rfl
    exact J.wi 4 [] [] [] 117 (i+1)<|J.t 3 (ih4 _ (show((c.ai:Int)-(i+1)).toNat<mm4 from by omega) ra23 rc23 tt39 (i+1) w51 om om (by rw[bG h0,← ht];simp only[htt27,htt28,htt29,htt37,htt38,htt39];exact mv_01 (cdT_no (bY (n:=0) hcl2 om) om) (afT_yes om)) ((S141.erase 1).erase 0) rfl)
    refine J.r 3 [false] [] [] ?_
    have S142:=S100.front 2 rfl
    have S143:Sep w [box b2 [.pointer (some ⟨b2,0,none⟩),.slice ra15 ((ls tt29).length) rc15] 50,aa ba ra15 rc15 5 1 (ls tt29),aa (ah Value.string) ca2 cc2 9 1 cl2,box b6 [.int .i64 ((c.ab.getD (i).toNat (⟨0,0,0,0,0⟩:Mv)).aC),.int .i64 ((c.ab.getD (i).toNat (⟨0,0,0,0,0⟩:Mv)).gTo),.int .i64 ((c.ab.getD (i).toNat (⟨0,0,0,0,0⟩:Mv)).gOn),.int .i64 ((c.ab.getD (i).toNat (⟨0,0,0,0,0⟩:Mv)).aN),.int .i64 ((c.ab.getD (i).toNat (⟨0,0,0,0,0⟩:Mv)).ax)] 57,box b1 [.slice c.al c.aj c.ao,.slice c.ak c.af c.am,.int .i64 c.av,.slice c.aq c.ai c.au] 25] w40:=S142.front 3 rfl
    have hz1:(⟨#[10]⟩:ByteArray).size=1:=rfl
    refine J.callF 116 18 #[.pointer (some ⟨b2,0,none⟩),.string ⟨#[10]⟩] hb18 kr (bm b2 (some ⟨b2,0,none⟩) ra15 rc15 tt29 (⟨#[10]⟩:ByteArray) _ _ _ S143 (by first | assumption | exact .inl rfl | exact .inr rfl) om) ?_
    obtain ⟨tt40,htt40⟩:∃ y:ByteArray,y=tt29++(⟨#[10]⟩:ByteArray):=⟨_,rfl⟩
    have hstt40:tt40.size=tt29.size+1:=by rw[htt40];exact aw _ _
    rintro _ w52 ⟨rfl,ra24,rc24,S144⟩
    rw[show tt29++(⟨#[10]⟩:ByteArray)=tt40 from htt40.symm] at S144
    replace S144:Sep w [box b2 [.pointer (some ⟨b2,0,none⟩),.slice ra24 ((ls tt40).length) rc24] 50,aa ba ra24 rc24 5 1 (ls tt40),aa (ah Value.string) ca2 cc2 9 1 cl2,box b6 [.int .i64 ((c.ab.getD (i).toNat (⟨0,0,0,0,0⟩:Mv)).aC),.int .i64 ((c.ab.getD (i).toNat (⟨0,0,0,0,0⟩:Mv)).gTo),.int .i64 ((c.ab.getD (i).toNat (⟨0,0,0,0,0⟩:Mv)).gOn),.int .i64 ((c.ab.getD (i).toNat (⟨0,0,0,0,0⟩:Mv)).aN),.int .i64 ((c.ab.getD (i).toNat (⟨0,0,0,0,0⟩:Mv)).ax)] 57,box b1 [.slice c.al c.aj c.ao,.slice c.ak c.af c.am,.int .i64 c.av,.slice c.aq c.ai c.au] 25] w52:=S144
    have S145:=S144.front 1 rfl
    have S146:=S145.front 3 rfl
    have S147:Sep w [aa (ah Value.string) ca2 cc2 9 1 cl2,box b6 [.int .i64 ((c.ab.getD (i).toNat (⟨0,0,0,0,0⟩:Mv)).aC),.int .i64 ((c.ab.getD (i).toNat (⟨0,0,0,0,0⟩:Mv)).gTo),.int .i64 ((c.ab.getD (i).toNat (⟨0,0,0,0,0⟩:Mv)).gOn),.int .i64 ((c.ab.getD (i).toNat (⟨0,0,0,0,0⟩:Mv)).aN),.int .i64 ((c.ab.getD (i).toNat (⟨0,0,0,0,0⟩:Mv)).ax)] 57,aa ba ra24 rc24 5 1 (ls tt40),box b2 [.pointer (some ⟨b2,0,none⟩),.slice ra24 ((ls tt40).length) rc24] 50,box b1 [.slice c.al c.aj c.ao,.slice c.ak c.af c.am,.int .i64 c.av,.slice c.aq c.ai c.au] 25] w52:=S146.front 3 rfl
    exact J.wi 4 [] [] [] 117 (i+1)<|J.t 3 (ih4 _ (show((c.ai:Int)-(i+1)).toNat<mm4 from by omega) ra24 rc24 tt40 (i+1) w52 om om (by rw[bG h0,← ht];simp only[htt27,htt28,htt29,htt40];exact mv_00 (cdT_no (bY (n:=0) hcl2 om) om) (afT_no om)) ((S147.erase 1).erase 0) rfl)
   exact J.t 5 (L6_6 _ ca cc cl 0 w37 om om om (hcl.trans (by rw[show j=(c.ay.length:Int) by omega];rfl)) S97 rfl)
  exact J.t 5 (L6_5 _ none 0 ([]) 0 w36 om om (by simp) (rfl) S96 rfl)
  refine J.r 4 [false] [] [] ?_
  have S148:=S87.front 0 rfl
  have S149:Sep w [box b2 [.pointer (some ⟨b2,0,none⟩),.slice ra ((ls t).length) rc] 50,aa ba ra rc 5 1 (ls t),box b1 [.slice c.al c.aj c.ao,.slice c.ak c.af c.am,.int .i64 c.av,.slice c.aq c.ai c.au] 25] w32:=S148.front 1 rfl
  refine J.callF 118 21 #[.pointer (some ⟨b2,0,none⟩)] hb21 kr (bstring_any b2 (some ⟨b2,0,none⟩) ra rc t _ _ _ S149 (by first | assumption | exact .inl rfl | exact .inr rfl) (offs_cons (off_box _ _ _ dE) (offs_nil _))) ?_
  rintro _ w53 ⟨rfl,S150⟩
  replace S150:Sep w [box b1 [.slice c.al c.aj c.ao,.slice c.ak c.af c.am,.int .i64 c.av,.slice c.aq c.ai c.au] 25] w53:=S150
  refine J.e 3 [.string t,.int .i64 0] func6 (hR _ _ ?_)
  exact⟨by rw[(tx_yes hv).1,(tx_yes hv).2,ht,show i.toNat=c.ab.length by omega];rfl,S150.nil⟩
 exact J.t 5 (L6_4 _ ra14 rc14 tt26 0 w31 om om (by simp only[htt1,htt2,htt3,htt24,htt25,htt26];exact hd_no om) S86 rfl)
 refine J.e 6 [.string ByteArray.empty,.int .i64 1] func6 (hR _ _ ?_)
 exact⟨by rw[(tx_no fk1).1,(tx_no fk1).2];rfl,S2.nil⟩

end
end Go.Proofs.YtdneanhkcnfgdaaGreatDoor

