/- Walks of functions of this seat, printed by a program over the engine. Conditions: as each theorem says. -/
import Derived.Test.YtaoolgcddapegaaGreatDoorZrG47
import Derived.Test.YtaoolgcddapegaaGreatDoorZrX22
import Derived.Test.YtaoolgcddapegaaGreatDoorZrF34
set_option linter.unusedSimpArgs false
set_option linter.unusedVariables false
namespace Go.Proofs.YtaoolgcddapegaaGreatDoor
noncomputable section
open Go.Eng Go.RowKit Go.Proofs.Tryz
set_option maxRecDepth 20000
set_option maxHeartbeats 20000000
abbrev dv:List Value:=[iv 0,iv 0,iv 0,iv 0,iv 0]
theorem hb19:af prog 19:=fun _ _=>by kernel_rfl
def K19_0:=adv 23 [false] (cL (adv 30 [false] (bo Tryz.f19)))
theorem mparse_any (s:ByteArray) (w:World) (hs:s.size≤1000000) (hW:TabW w):Ret prog 19 #[.string s] w (fun v w'=>v=.tuple #[.agg #[iv (dK s).gOp,iv (dK s).gA,iv (dK s).gB,iv (dK s).gC,iv (dK s).gK],iv (parIE s)]∧Sep w [] w'):=by
 refine Ret.st (N:=89) func19 fun R hR S0=>?_
 have hrl_:=rows_len
 have hpl_:=eY 32 s
 have hpp_:=List.length_pos_iff.2 (eV 32 (ls s))
 refine J.nw 2 [] [] [] S0 2 dv 48 fun b1 w1 S1=>J.c 9 [] [] [] 14 ((s.size:Int)>100) (fun fk1=>?_) fun fk1=>?_
 refine J.sb 4 [true] [] [] S1 0 rfl dv rfl fun w2 S2=>J.r 2 [] [(3,iv 5)] []<|J.ret Tryz.f19 [.agg #[iv 0,iv 0,iv 0,iv 0,iv 0],iv 5] func19 ⟨⟨⟨b1,0,none⟩,kr,aT (S2.nth 0 rfl) kr⟩,kr,trivial⟩<|hR _ _ ?_
 obtain ⟨e1,e2⟩:=par_long (s:=s) om
 exact⟨by rw[e1,e2];rfl,S2.nil⟩
 refine J.r 5 [false] [(16,.string s)] []<|J.callF 17 50 #[.string s,.string ⟨#[32]⟩] hb50 kr (split32_any s _ om (tabW_sep hW S1)) ?_
 rintro _ w3 ⟨b2,rfl,T1⟩
 have S3:Sep w [box b2 ((az 32 s).map Value.string) 9,box b1 dv 48] w3:=S1.trans T1
 have:=splitOn_bound 32 (ls s);have:=eY 32 s;have:=cm s
 refine J.nw 0 [] [] [] S3 4 [.slice none 0 0] 104 fun b3 w4 S4=>J.sb 0 [] [] [] S4 0 rfl [.slice (some ⟨b2,0,none⟩) ((az 32 s).length) ((az 32 s).length)] rfl fun w5 S5=>J.r 3 [] [] []<|J.callF 18 52 #[] hb52 kr (rows_any _) ?_
 rintro _ w6 ⟨b4,rfl,T2⟩
 have S6:Sep w [box b4 (aw.flatMap de) 109,box b3 [.slice (some ⟨b2,0,none⟩) ((az 32 s).length) ((az 32 s).length)] 104,box b2 ((az 32 s).map Value.string) 9,box b1 dv 48] w6:=S5.trans T2
 refine J.r 1 [] [(19,.func (.func 53) #[] #[pv b3])] []<|J.callF 20 51 #[.slice (some ⟨b4,0,none⟩) 23 23,.func (.func 53) #[] #[pv b3]] hb51 kr (indexRW1 (some ⟨b4,0,none⟩) 23 23 aw 53 (pv b3) (fun r:Rwo=>r.gname.toList==((az 32 s).getD 0 ByteArray.empty).toList) _ ((show Recs de 3 w6 (some ⟨b4,0,none⟩) 23 (aw:List Rwo) from ⟨rfl,fun _=>rfl,dE,bS (S6.nth 0 rfl)⟩)) oz hb53 (fun i_ w_ hi_ S_=>parse1_any _ b3 (some ⟨b2,0,none⟩) ((az 32 s).length) ((az 32 s).length) (az 32 s) w_ ((box_ones (S6.nth 2 rfl) ((az 32 s).length) rfl).sep S_) om (dI (S6.nth 1 rfl) S_))) ?_
 rintro _ w7 ⟨rfl,T3⟩
 have S7:Sep w [box b4 (aw.flatMap de) 109,box b3 [.slice (some ⟨b2,0,none⟩) ((az 32 s).length) ((az 32 s).length)] 104,box b2 ((az 32 s).map Value.string) 9,box b1 dv 48] w7:=S6.trans T3
 obtain ⟨op,hop⟩:∃ x:Int,x=bR (fun r:Rwo=>r.gname.toList==((az 32 s).getD 0 ByteArray.empty).toList) aw:=⟨_,rfl⟩
 refine J.head (iv op) (congrArg (Value.int .i64) hop.symm) ?_
 obtain ⟨hix1,hix2,hix3,hix4⟩:=index_rows ((az 32 s).getD 0 ByteArray.empty)
 rw[← hop] at hix1 hix2 hix3 hix4
 have hop2:=hix4
 refine J.r 4 [] [(5,iv op)] [] ?_
 by_cases fk2:op<1
 refine J.drawPlan (fun w_=>Sep w [box b4 (aw.flatMap de) 109,box b3 [.slice (some ⟨b2,0,none⟩) ((az 32 s).length) ((az 32 s).length)] 104,box b2 ((az 32 s).map Value.string) 9,box b1 dv 48] w_) [(0,true),(1,true),(2,true),(3,true),(4,true),(5,true),(6,true),(7,true),(8,true),(9,true),(10,true),(11,true),(12,true),(13,true)] S7 Tryz.mixed kr (aF (T:=[(0,some 21,32),(1,some 22,2097152),(2,some 23,4194304),(4,some 24,8388624),(12,some 25,25165824),(4,some 26,8388608),(4,some 27,8388640),(100,some 28,209715200),(132,some 29,276824064),(260,some 30,545259520),(516,some 31,1082130432),(1028,some 32,2155872256),(2068,some 33,4336910336),(4100,some 34,8598323200)]) kr kr) ?_
 intro w8 S8
 refine PB.mk S8<|PL.take 0 21 (iv op) (fun _ _=>kr)<|PL.take 1 22 (.bool (decide (op<1))) (fun _ _=>kr)<|PL.head (.bool true) (congrArg Value.bool (decide_eq_true fk2))<|PL.take 2 23 (.bool true) (fun _ _=>kr)<|PL.takePass 3 (some 24) kr<|PL.takePass 4 (some 25) kr<|PL.takePass 5 (some 26) kr<|PL.takePass 6 (some 27) kr<|PL.takePass 7 (some 28) kr<|PL.takePass 8 (some 29) kr ?_
 refine PL.takePass 9 (some 30) kr<|PL.takePass 10 (some 31) kr<|PL.takePass 11 (some 32) kr<|PL.takePass 12 (some 33) kr<|PL.take 13 34 (.bool true) (fun _ _=>kr)<|PL.done<|J.sb 4 [true] [] [] S8 3 rfl dv rfl fun w9 S9=>J.r 2 [] [(3,iv 3)] []<|J.ret Tryz.f19 [.agg #[iv 0,iv 0,iv 0,iv 0,iv 0],iv 3] func19 ⟨⟨⟨b1,0,none⟩,kr,aT (S9.nth 3 rfl) kr⟩,kr,trivial⟩<|hR _ _ ?_
 obtain ⟨e1,e2⟩:=mat_none (s:=s) om (readI_not rfl (by first | exact .inl om | exact .inr (by rw[hop2 om,← (rows_at (op:=op) om).2.1];omega)))
 exact⟨by rw[e1,e2];rfl,S9.nil⟩
 have hrz0:=rows_size (op:=op) om
 refine J.drawPlan (fun w_=>Sep w [box b4 (aw.flatMap de) 109,box b3 [.slice (some ⟨b2,0,none⟩) ((az 32 s).length) ((az 32 s).length)] 104,box b2 ((az 32 s).map Value.string) 9,box b1 dv 48] w_) [(0,true),(1,true),(2,true),(3,true),(4,true),(6,true),(5,false),(7,true),(8,true),(9,false),(10,true),(11,true),(12,true),(13,true)] S7 Tryz.mixed kr (aF (T:=[(0,some 21,32),(1,some 22,2097152),(2,some 23,4194304),(4,some 24,8388624),(12,some 25,25165824),(4,some 26,8388608),(4,some 27,8388640),(100,some 28,209715200),(132,some 29,276824064),(260,some 30,545259520),(516,some 31,1082130432),(1028,some 32,2155872256),(2068,some 33,4336910336),(4100,some 34,8598323200)]) kr kr) ?_
 intro w10 S10
 refine PB.mk S10<|PL.take 0 21 (iv op) (fun _ _=>kr)<|PL.take 1 22 (.bool (decide (op<1))) (fun _ _=>kr)<|PL.head (.bool false) (congrArg Value.bool (decide_eq_false fk2))<|PL.take 2 23 (.bool false) (fun _ _=>kr)<|PL.takeOK 3 (fun w_ S_=>OK.ldBox S_ 1 24 104 0 (.slice (some ⟨b2,0,none⟩) ((az 32 s).length) ((az 32 s).length)) kr rfl kr) rfl<|PL.take 4 25 (iv ((az 32 s).length:Int)) (fun _ _=>kr)<|PL.take 6 27 (iv op) (fun _ _=>kr)<|PL.callF 26 52 #[] hb52 kr (rows_any _) ?_
 rintro _ w11 ⟨b5,rfl,T4⟩
 have S11:Sep w [box b5 (aw.flatMap de) 109,box b4 (aw.flatMap de) 109,box b3 [.slice (some ⟨b2,0,none⟩) ((az 32 s).length) ((az 32 s).length)] 104,box b2 ((az 32 s).map Value.string) 9,box b1 dv 48] w11:=S10.trans T4
 clear T4 S10
 refine PB.mk (S11.erase 0)<|PL.takeOK 7 (fun w_ S_=>OK.index 28 107 3 (some ⟨b5,0,none⟩) ⟨b5,0,none⟩ 23 (op).toNat op ⟨b5,((op).toNat)*3,none⟩ kr kr rfl om oz (by rw[eF,Nat.zero_add])) rfl<|PL.take 8 29 (.pointer (some ⟨b5,((op).toNat)*3+1,none⟩)) (fun _ _=>kr)<|PL.ok (OK.ldCell 30 9 ⟨b5,((op).toNat)*3+1,none⟩ (.string ((aw.getD ((op).toNat) aZ).gfields)) kr kr (box_rec_one (s:=3) (S11.nth 0 rfl) (fun _=>rfl) dE aZ ((op).toNat) oz 1 _ rfl))<|PB.mk (S11.erase 0)<|PL.take 10 31 (iv (((aw.getD ((op).toNat) aZ).gfields).size:Int)) (fun _ _=>kr)<|PL.take 11 32 (iv (IntKind.wrap .i64 (1+(((aw.getD ((op).toNat) aZ).gfields).size:Int)))) (fun _ _=>kr)<|PL.head (iv (1+(((aw.getD ((op).toNat) aZ).gfields).size:Int))) (congrArg (Value.int .i64) (IntWalk.i64_in _ om))<|PL.take 12 33 (.bool (((az 32 s).length:Int) != (1+(((aw.getD ((op).toNat) aZ).gfields).size:Int)))) (fun _ _=>kr)<|PL.take 13 34 (.bool (((az 32 s).length:Int) != (1+(((aw.getD ((op).toNat) aZ).gfields).size:Int)))) (fun _ _=>kr)<|PL.done ?_
 refine J.cn 0 [] [] [] 34 (((az 32 s).length:Int)=(1+(((aw.getD ((op).toNat) aZ).gfields).size:Int))) (fun fk3=>?_) fun fk3=>?_
 refine J.nw 6 [false] [(37,.agg #[iv op,iv 0,iv 0,iv 0,iv 0])] [] S11 6 dv 48 fun b6 w12 S12=>J.sb 0 [] [] [] S12 0 rfl [iv op,iv 0,iv 0,iv 0,iv 0] rfl fun w13 S13=>J.r 4 [] [] []<|J.callF 38 52 #[] hb52 kr (rows_any _) ?_
 rintro _ w14 ⟨b7,rfl,T5⟩
 have S14:Sep w [box b7 (aw.flatMap de) 109,box b6 [iv op,iv 0,iv 0,iv 0,iv 0] 48,box b5 (aw.flatMap de) 109,box b4 (aw.flatMap de) 109,box b3 [.slice (some ⟨b2,0,none⟩) ((az 32 s).length) ((az 32 s).length)] 104,box b2 ((az 32 s).map Value.string) 9,box b1 dv 48] w14:=S13.trans T5
 refine J.r 1 [] [(39,iv op)] []<|J.ok (OK.index 40 107 3 (some ⟨b7,0,none⟩) ⟨b7,0,none⟩ 23 (op).toNat op ⟨b7,((op).toNat)*3,none⟩ kr kr rfl om oz (by rw[eF,Nat.zero_add]))<|J.r 1 [] [(41,.pointer (some ⟨b7,((op).toNat)*3+1,none⟩))] []<|J.ok (OK.ldCell 42 9 ⟨b7,((op).toNat)*3+1,none⟩ (.string ((aw.getD ((op).toNat) aZ).gfields)) kr kr (box_rec_one (s:=3) (S14.nth 0 rfl) (fun _=>rfl) dE aZ ((op).toNat) oz 1 _ rfl))<|J.strBytes S14 43 9 52 5 ((aw.getD ((op).toNat) aZ).gfields) kr kr ?_
 intro b8 cq1 w15 S15
 have L19_1:∀ (mm_:Nat) (a:Int) (b:Int) (c:Int) (q:Int) (k:Int) (w16:World),(0≤k)→(k≤(((aw.getD ((op).toNat) aZ).gfields).size:Int))→((-9223372036854775808≤a∧a≤9223372036854775807)∧(-9223372036854775808≤b∧b≤9223372036854775807)∧(-9223372036854775808≤c∧c≤9223372036854775807)∧(-9223372036854775808≤q∧q≤9223372036854775807))→(atW matW s op k (⟨op,a,b,c,q⟩:Ins))→Sep w [rows8 b8 ((aw.getD ((op).toNat) aZ).gfields),box b7 (aw.flatMap de) 109,box b6 [iv op,iv a,iv b,iv c,iv q] 48,box b5 (aw.flatMap de) 109,box b4 (aw.flatMap de) 109,box b3 [.slice (some ⟨b2,0,none⟩) ((az 32 s).length) ((az 32 s).length)] 104,box b2 ((az 32 s).map Value.string) 9,box b1 dv 48] w16→((((aw.getD ((op).toNat) aZ).gfields).size:Int)-k).toNat=mm_→J prog 19 89 R K19_0 [(45,iv k),(44,iv (((aw.getD ((op).toNat) aZ).gfields).size:Int)),(43,.slice (some ⟨b8,0,none⟩) (((aw.getD ((op).toNat) aZ).gfields).size) cq1),(6,pv b6),(4,pv b3),(2,pv b1),(0,.string s)] w16:=by
  intro mm1
  induction mm1 using Nat.strongRecOn with
  | _ mm1 ih1 =>
  intro a b c q k w16 h0 h1 hb hG S16 hm1
  have hrw:=rows_at (op:=op) om
  have hrz:=rows_size (op:=op) om
  refine J.c 5 [] [] [] 46 (k<(((aw.getD ((op).toNat) aZ).gfields).size:Int)) (fun fk4=>?_) fun fk4=>?_
  refine J.r 7 [true] [(47,iv k)] [] ?_
  obtain ⟨p1,hp1,hc1⟩:=rows8_at (S16.nth 0 rfl) (k).toNat oz
  have:=ee ((aw.getD ((op).toNat) aZ).gfields) (k).toNat
  refine J.ok (OK.index 48 52 1 (some ⟨b8,0,none⟩) p1 (((aw.getD ((op).toNat) aZ).gfields).size) (k).toNat k (p1.add (k).toNat) kr kr hp1 om oz nO)<|J.ok (OK.ldCell 49 5 (p1.add (k).toNat) (.int .u8 (bD ((aw.getD ((op).toNat) aZ).gfields) (k).toNat)) kr kr hc1)<|J.lb 5 [] [(8,.int .u8 (bD ((aw.getD ((op).toNat) aZ).gfields) (k).toNat)),(7,iv k)] [] S16 5 rfl 50 (.slice (some ⟨b2,0,none⟩) ((az 32 s).length) ((az 32 s).length))<|J.wi 2 [] [] [] 52 (k+1)<|J.ok (OK.index 53 104 1 (some ⟨b2,0,none⟩) ⟨b2,0,none⟩ ((az 32 s).length) (k+1).toNat (k+1) ⟨b2,(k+1).toNat,none⟩ kr kr rfl om oz (by rw[Nat.mul_one,eF,Nat.zero_add]))<|J.ok (OK.ldArr Value.string S16 6 54 9 ((k+1).toNat) ByteArray.empty kr kr rfl oz)<|J.cn 8 [] [(9,.string ((az 32 s).getD ((k+1).toNat) ByteArray.empty))] [] 56 ((bD ((aw.getD ((op).toNat) aZ).gfields) (k).toNat)=75) (fun fk5=>?_) fun fk5=>?_
  refine J.r 5 [false] [(60,.string ((az 32 s).getD ((k+1).toNat) ByteArray.empty))] [] ?_
  rcases Bool.eq_false_or_eq_true ((atM (ls ((az 32 s).getD ((k+1).toNat) ByteArray.empty))).isSome) with fk6 | fk6
  have hps_:=piece_size 32 s (k+1).toNat
  have:=atM_bd (ls ((az 32 s).getD ((k+1).toNat) ByteArray.empty))
  refine J.c0 0 [] [] [] S16 61 hb55 (atoi_some ((az 32 s).getD ((k+1).toNat) ByteArray.empty) _ om fk6) fun w17 S17=>J.c 24 [false] [(67,.int .u8 (bD ((aw.getD ((op).toNat) aZ).gfields) (k).toNat)),(10,iv ((atM (ls ((az 32 s).getD ((k+1).toNat) ByteArray.empty))).getD 0))] [] 70 ((bD ((aw.getD ((op).toNat) aZ).gfields) (k).toNat)=65) (fun fk7=>?_) fun fk7=>?_
  exact J.sb 4 [true] [] [] S17 2 rfl [iv op,iv ((atM (ls ((az 32 s).getD ((k+1).toNat) ByteArray.empty))).getD 0),iv b,iv c,iv q] rfl fun w18 S18=>J.wi 5 [] [] [] 82 (k+1)<|J.t 3 (ih1 _ (show((((aw.getD ((op).toNat) aZ).gfields).size:Int)-(k+1)).toNat<mm1 from by omega) ((atM (ls ((az 32 s).getD ((k+1).toNat) ByteArray.empty))).getD 0) b c q (k+1) w18 om om om (by have h_:=atW_next hG h0 (by rw[← hrw.2.1];omega) (w:=((az 32 s).getD (k+1).toNat ByteArray.empty)) rfl (by rw[← hrw.2.1];omega) (by rw[← hrw.2.1];exact(mat_k om).trans (at_some fk6));rw[← hrw.2.1,set_val.1 om] at h_;exact h_) S18 rfl)
  refine J.c 6 [false] [] [] 74 ((bD ((aw.getD ((op).toNat) aZ).gfields) (k).toNat)=66) (fun fk8=>?_) fun fk8=>?_
  exact J.sb 4 [true] [] [] S17 2 rfl [iv op,iv a,iv ((atM (ls ((az 32 s).getD ((k+1).toNat) ByteArray.empty))).getD 0),iv c,iv q] rfl fun w19 S19=>J.wi 5 [] [] [] 82 (k+1)<|J.t 3 (ih1 _ (show((((aw.getD ((op).toNat) aZ).gfields).size:Int)-(k+1)).toNat<mm1 from by omega) a ((atM (ls ((az 32 s).getD ((k+1).toNat) ByteArray.empty))).getD 0) c q (k+1) w19 om om om (by have h_:=atW_next hG h0 (by rw[← hrw.2.1];omega) (w:=((az 32 s).getD (k+1).toNat ByteArray.empty)) rfl (by rw[← hrw.2.1];omega) (by rw[← hrw.2.1];exact(mat_k om).trans (at_some fk6));rw[← hrw.2.1,set_val.2.1 om] at h_;exact h_) S19 rfl)
  refine J.c 6 [false] [] [] 78 ((bD ((aw.getD ((op).toNat) aZ).gfields) (k).toNat)=67) (fun fk9=>?_) fun fk9=>?_
  exact J.sb 4 [true] [] [] S17 2 rfl [iv op,iv a,iv b,iv ((atM (ls ((az 32 s).getD ((k+1).toNat) ByteArray.empty))).getD 0),iv q] rfl fun w20 S20=>J.wi 5 [] [] [] 82 (k+1)<|J.t 3 (ih1 _ (show((((aw.getD ((op).toNat) aZ).gfields).size:Int)-(k+1)).toNat<mm1 from by omega) a b ((atM (ls ((az 32 s).getD ((k+1).toNat) ByteArray.empty))).getD 0) q (k+1) w20 om om om (by have h_:=atW_next hG h0 (by rw[← hrw.2.1];omega) (w:=((az 32 s).getD (k+1).toNat ByteArray.empty)) rfl (by rw[← hrw.2.1];omega) (by rw[← hrw.2.1];exact(mat_k om).trans (at_some fk6));rw[← hrw.2.1,set_val.2.2.1 om] at h_;exact h_) S20 rfl)
  exact J.sb 4 [false] [] [] S17 2 rfl [iv op,iv a,iv b,iv c,iv ((atM (ls ((az 32 s).getD ((k+1).toNat) ByteArray.empty))).getD 0)] rfl fun w21 S21=>J.wi 5 [] [] [] 82 (k+1)<|J.t 3 (ih1 _ (show((((aw.getD ((op).toNat) aZ).gfields).size:Int)-(k+1)).toNat<mm1 from by omega) a b c ((atM (ls ((az 32 s).getD ((k+1).toNat) ByteArray.empty))).getD 0) (k+1) w21 om om om (by have h_:=atW_next hG h0 (by rw[← hrw.2.1];omega) (w:=((az 32 s).getD (k+1).toNat ByteArray.empty)) rfl (by rw[← hrw.2.1];omega) (by rw[← hrw.2.1];exact(mat_k om).trans (at_some fk6));rw[← hrw.2.1,set_val.2.2.2 om om om] at h_;exact h_) S21 rfl)
  have hps_:=piece_size 32 s (k+1).toNat
  refine J.cf 0 [] [] [] 61 hb55 (atoi_none ((az 32 s).getD ((k+1).toNat) ByteArray.empty) _ om fk6 (tabW_sep hW S16)) ?_
  rintro _ w22 ⟨ex1,en1,rfl,T6⟩
  have S22:Sep w [rows8 b8 ((aw.getD ((op).toNat) aZ).gfields),box b7 (aw.flatMap de) 109,box b6 [iv op,iv a,iv b,iv c,iv q] 48,box b5 (aw.flatMap de) 109,box b4 (aw.flatMap de) 109,box b3 [.slice (some ⟨b2,0,none⟩) ((az 32 s).length) ((az 32 s).length)] 104,box b2 ((az 32 s).map Value.string) 9,box b1 dv 48] w22:=S16.trans T6
  refine J.sb 16 [true] [] [] S22 7 rfl dv rfl fun w23 S23=>J.r 2 [] [(3,iv 3)] []<|J.ret Tryz.f19 [.agg #[iv 0,iv 0,iv 0,iv 0,iv 0],iv 3] func19 ⟨⟨⟨b1,0,none⟩,kr,aT (S23.nth 7 rfl) kr⟩,kr,trivial⟩<|hR _ _ ?_
  obtain ⟨e1,e2⟩:=mat_none (s:=s) om (atW_none hG h0 (by rw[← hrw.2.1];omega) rfl (by rw[← hrw.2.1];omega) (by rw[← hrw.2.1];exact(mat_k om).trans (at_none fk6)))
  exact⟨by rw[e1,e2];rfl,S23.nil⟩
  refine J.c0 3 [true] [] [] S16 58 hb54 (trimprefix_any ((az 32 s).getD ((k+1).toNat) ByteArray.empty) (⟨#[114]⟩:ByteArray) _) fun w24 S24=>J.r 5 [] [(60,.string (⟨(Lib.trimPrefix (ls ((az 32 s).getD ((k+1).toNat) ByteArray.empty)) (ls (⟨#[114]⟩:ByteArray))).toArray⟩:ByteArray))] [9] ?_
  rcases Bool.eq_false_or_eq_true ((atM (ls (⟨(Lib.trimPrefix (ls ((az 32 s).getD ((k+1).toNat) ByteArray.empty)) (ls (⟨#[114]⟩:ByteArray))).toArray⟩:ByteArray))).isSome) with fk10 | fk10
  have hps_:=piece_size 32 s (k+1).toNat
  have hts_:=trim_size ((az 32 s).getD (k+1).toNat ByteArray.empty) (⟨#[114]⟩:ByteArray)
  have:=atM_bd (ls (⟨(Lib.trimPrefix (ls ((az 32 s).getD ((k+1).toNat) ByteArray.empty)) (ls (⟨#[114]⟩:ByteArray))).toArray⟩:ByteArray))
  refine J.c0 0 [] [] [] S24 61 hb55 (atoi_some (⟨(Lib.trimPrefix (ls ((az 32 s).getD ((k+1).toNat) ByteArray.empty)) (ls (⟨#[114]⟩:ByteArray))).toArray⟩:ByteArray) _ om fk10) fun w25 S25=>J.c 24 [false] [(67,.int .u8 (bD ((aw.getD ((op).toNat) aZ).gfields) (k).toNat)),(10,iv ((atM (ls (⟨(Lib.trimPrefix (ls ((az 32 s).getD ((k+1).toNat) ByteArray.empty)) (ls (⟨#[114]⟩:ByteArray))).toArray⟩:ByteArray))).getD 0))] [] 70 ((bD ((aw.getD ((op).toNat) aZ).gfields) (k).toNat)=65) (fun fk11=>?_) fun fk11=>?_
  exact J.sb 4 [true] [] [] S25 2 rfl [iv op,iv ((atM (ls (⟨(Lib.trimPrefix (ls ((az 32 s).getD ((k+1).toNat) ByteArray.empty)) (ls (⟨#[114]⟩:ByteArray))).toArray⟩:ByteArray))).getD 0),iv b,iv c,iv q] rfl fun w26 S26=>J.wi 5 [] [] [] 82 (k+1)<|J.t 3 (ih1 _ (show((((aw.getD ((op).toNat) aZ).gfields).size:Int)-(k+1)).toNat<mm1 from by omega) ((atM (ls (⟨(Lib.trimPrefix (ls ((az 32 s).getD ((k+1).toNat) ByteArray.empty)) (ls (⟨#[114]⟩:ByteArray))).toArray⟩:ByteArray))).getD 0) b c q (k+1) w26 om om om (by have h_:=atW_next hG h0 (by rw[← hrw.2.1];omega) (w:=((az 32 s).getD (k+1).toNat ByteArray.empty)) rfl (by rw[← hrw.2.1];omega) (by rw[← hrw.2.1];exact(mat_r om rfl).trans (at_some fk10));rw[← hrw.2.1,set_val.1 om] at h_;exact h_) S26 rfl)
  refine J.c 6 [false] [] [] 74 ((bD ((aw.getD ((op).toNat) aZ).gfields) (k).toNat)=66) (fun fk12=>?_) fun fk12=>?_
  exact J.sb 4 [true] [] [] S25 2 rfl [iv op,iv a,iv ((atM (ls (⟨(Lib.trimPrefix (ls ((az 32 s).getD ((k+1).toNat) ByteArray.empty)) (ls (⟨#[114]⟩:ByteArray))).toArray⟩:ByteArray))).getD 0),iv c,iv q] rfl fun w27 S27=>J.wi 5 [] [] [] 82 (k+1)<|J.t 3 (ih1 _ (show((((aw.getD ((op).toNat) aZ).gfields).size:Int)-(k+1)).toNat<mm1 from by omega) a ((atM (ls (⟨(Lib.trimPrefix (ls ((az 32 s).getD ((k+1).toNat) ByteArray.empty)) (ls (⟨#[114]⟩:ByteArray))).toArray⟩:ByteArray))).getD 0) c q (k+1) w27 om om om (by have h_:=atW_next hG h0 (by rw[← hrw.2.1];omega) (w:=((az 32 s).getD (k+1).toNat ByteArray.empty)) rfl (by rw[← hrw.2.1];omega) (by rw[← hrw.2.1];exact(mat_r om rfl).trans (at_some fk10));rw[← hrw.2.1,set_val.2.1 om] at h_;exact h_) S27 rfl)
  refine J.c 6 [false] [] [] 78 ((bD ((aw.getD ((op).toNat) aZ).gfields) (k).toNat)=67) (fun fk13=>?_) fun fk13=>?_
  exact J.sb 4 [true] [] [] S25 2 rfl [iv op,iv a,iv b,iv ((atM (ls (⟨(Lib.trimPrefix (ls ((az 32 s).getD ((k+1).toNat) ByteArray.empty)) (ls (⟨#[114]⟩:ByteArray))).toArray⟩:ByteArray))).getD 0),iv q] rfl fun w28 S28=>J.wi 5 [] [] [] 82 (k+1)<|J.t 3 (ih1 _ (show((((aw.getD ((op).toNat) aZ).gfields).size:Int)-(k+1)).toNat<mm1 from by omega) a b ((atM (ls (⟨(Lib.trimPrefix (ls ((az 32 s).getD ((k+1).toNat) ByteArray.empty)) (ls (⟨#[114]⟩:ByteArray))).toArray⟩:ByteArray))).getD 0) q (k+1) w28 om om om (by have h_:=atW_next hG h0 (by rw[← hrw.2.1];omega) (w:=((az 32 s).getD (k+1).toNat ByteArray.empty)) rfl (by rw[← hrw.2.1];omega) (by rw[← hrw.2.1];exact(mat_r om rfl).trans (at_some fk10));rw[← hrw.2.1,set_val.2.2.1 om] at h_;exact h_) S28 rfl)
  exact J.sb 4 [false] [] [] S25 2 rfl [iv op,iv a,iv b,iv c,iv ((atM (ls (⟨(Lib.trimPrefix (ls ((az 32 s).getD ((k+1).toNat) ByteArray.empty)) (ls (⟨#[114]⟩:ByteArray))).toArray⟩:ByteArray))).getD 0)] rfl fun w29 S29=>J.wi 5 [] [] [] 82 (k+1)<|J.t 3 (ih1 _ (show((((aw.getD ((op).toNat) aZ).gfields).size:Int)-(k+1)).toNat<mm1 from by omega) a b c ((atM (ls (⟨(Lib.trimPrefix (ls ((az 32 s).getD ((k+1).toNat) ByteArray.empty)) (ls (⟨#[114]⟩:ByteArray))).toArray⟩:ByteArray))).getD 0) (k+1) w29 om om om (by have h_:=atW_next hG h0 (by rw[← hrw.2.1];omega) (w:=((az 32 s).getD (k+1).toNat ByteArray.empty)) rfl (by rw[← hrw.2.1];omega) (by rw[← hrw.2.1];exact(mat_r om rfl).trans (at_some fk10));rw[← hrw.2.1,set_val.2.2.2 om om om] at h_;exact h_) S29 rfl)
  have hps_:=piece_size 32 s (k+1).toNat
  have hts_:=trim_size ((az 32 s).getD (k+1).toNat ByteArray.empty) (⟨#[114]⟩:ByteArray)
  refine J.cf 0 [] [] [] 61 hb55 (atoi_none (⟨(Lib.trimPrefix (ls ((az 32 s).getD ((k+1).toNat) ByteArray.empty)) (ls (⟨#[114]⟩:ByteArray))).toArray⟩:ByteArray) _ om fk10 (tabW_sep hW S24)) ?_
  rintro _ w30 ⟨ex2,en2,rfl,T7⟩
  have S30:Sep w [rows8 b8 ((aw.getD ((op).toNat) aZ).gfields),box b7 (aw.flatMap de) 109,box b6 [iv op,iv a,iv b,iv c,iv q] 48,box b5 (aw.flatMap de) 109,box b4 (aw.flatMap de) 109,box b3 [.slice (some ⟨b2,0,none⟩) ((az 32 s).length) ((az 32 s).length)] 104,box b2 ((az 32 s).map Value.string) 9,box b1 dv 48] w30:=S24.trans T7
  refine J.sb 16 [true] [] [] S30 7 rfl dv rfl fun w31 S31=>J.r 2 [] [(3,iv 3)] []<|J.ret Tryz.f19 [.agg #[iv 0,iv 0,iv 0,iv 0,iv 0],iv 3] func19 ⟨⟨⟨b1,0,none⟩,kr,aT (S31.nth 7 rfl) kr⟩,kr,trivial⟩<|hR _ _ ?_
  obtain ⟨e1,e2⟩:=mat_none (s:=s) om (atW_none hG h0 (by rw[← hrw.2.1];omega) rfl (by rw[← hrw.2.1];omega) (by rw[← hrw.2.1];exact(mat_r om rfl).trans (at_none fk10)))
  exact⟨by rw[e1,e2];rfl,S31.nil⟩
  refine J.lb 5 [false] [] [] S16 2 rfl 83 (.agg #[iv op,iv a,iv b,iv c,iv q])<|J.c0 0 [] [] [] S16 84 hb21 (mtext_any (⟨op,a,b,c,q⟩:Ins) _ (show insQ _ (⟨op,a,b,c,q⟩:Ins) from ⟨(show(-9223372036854775808)≤(op:Int)∧(op:Int)≤9223372036854775807 from by omega),(show(-9223372036854775808)≤(a:Int)∧(a:Int)≤9223372036854775807 from by omega),(show(-9223372036854775808)≤(b:Int)∧(b:Int)≤9223372036854775807 from by omega),(show(-9223372036854775808)≤(c:Int)∧(c:Int)≤9223372036854775807 from by omega),(show(-9223372036854775808)≤(q:Int)∧(q:Int)≤9223372036854775807 from by omega),trivial⟩) (tabW_sep hW S16)) fun w32 S32=>J.b 3 [] [] [] 86 (!((textI (⟨op,a,b,c,q⟩:Ins)).toList==s.toList)) (fun fk14=>?_) fun fk14=>?_
  refine J.sb 4 [true] [] [] S32 7 rfl dv rfl fun w33 S33=>J.r 2 [] [(3,iv 3)] []<|J.ret Tryz.f19 [.agg #[iv 0,iv 0,iv 0,iv 0,iv 0],iv 3] func19 ⟨⟨⟨b1,0,none⟩,kr,aT (S33.nth 7 rfl) kr⟩,kr,trivial⟩<|hR _ _ ?_
  obtain ⟨e1,e2⟩:=mat_other (s:=s) om (atW_end hG (by rw[← hrw.2.1];omega)) (by simpa using fk14)
  exact⟨by rw[e1,e2];rfl,S33.nil⟩
  refine J.lb 4 [false] [] [] S32 2 rfl 88 (.agg #[iv op,iv a,iv b,iv c,iv q])<|J.sb 0 [] [] [] S32 7 rfl [iv op,iv a,iv b,iv c,iv q] rfl fun w34 S34=>J.r 2 [] [(3,iv 0)] []<|J.ret Tryz.f19 [.agg #[iv op,iv a,iv b,iv c,iv q],iv 0] func19 ⟨⟨⟨b1,0,none⟩,kr,aT (S34.nth 7 rfl) kr⟩,kr,trivial⟩<|hR _ _ ?_
  obtain ⟨e1,e2⟩:=mat_same (s:=s) om (atW_end hG (by rw[← hrw.2.1];omega)) (by simpa using fk14)
  exact⟨by rw[e1,e2];rfl,S34.nil⟩
 exact J.t 5 (L19_1 _ 0 0 0 0 0 w15 om (by have hrz:=rows_size (op:=op) om;omega) om (atW_start rfl (hop2 om) om (by rw[← (rows_at (op:=op) om).2.1];omega)) S15 rfl)
 refine J.sb 4 [true] [] [] S11 4 rfl dv rfl fun w35 S35=>J.r 2 [] [(3,iv 3)] []<|J.ret Tryz.f19 [.agg #[iv 0,iv 0,iv 0,iv 0,iv 0],iv 3] func19 ⟨⟨⟨b1,0,none⟩,kr,aT (S35.nth 4 rfl) kr⟩,kr,trivial⟩<|hR _ _ ?_
 obtain ⟨e1,e2⟩:=mat_none (s:=s) om (readI_not rfl (by first | exact .inl om | exact .inr (by rw[hop2 om,← (rows_at (op:=op) om).2.1];omega)))
 exact⟨by rw[e1,e2];rfl,S35.nil⟩

end
end Go.Proofs.YtaoolgcddapegaaGreatDoor

namespace Go.Proofs.YtaoolgcddapegaaGreatDoor
noncomputable section
open Go.Eng Go.RowKit Go.Proofs.Tryz
set_option maxRecDepth 20000
set_option maxHeartbeats 20000000
theorem form_q {i:Ins} (h:dh i=true) (w:World):insQ w i:=by
  have hp:=dO.1 h
  exact⟨om,om,om,om,om,trivial⟩
theorem parI_q (s:ByteArray) (w:World):insQ w (dK s):=by
  have h0:insQ w bq:=⟨dE,dE,dE,dE,dE,trivial⟩
  unfold dK
  split
  · exact h0
  · split
    · rename_i j hj;exact form_q (filter_some hj).2 w
    · exact h0
theorem hb20:af prog 20:=fun _ _=>by kernel_rfl

theorem bequal_any (la:Option Addr) (na ca:Nat) (xa:List Int) (lb:Option Addr) (nb cb:Nat) (xb:List Int) (w:World) (ha:Ones (Value.int .u8) w la na xa) (hb:Ones (Value.int .u8) w lb nb xb) (hpa:∀ p,la=some p→p=⟨p.block,p.off,none⟩) (hpb:∀ p,lb=some p→p=⟨p.block,p.off,none⟩):Ret prog 20 #[.slice la na ca,.slice lb nb cb] w (fun v w'=>v=.bool ((bytesB xa).toList==(bytesB xb).toList)∧Sep w [] w'):=by
 refine Ret.st (N:=10) func20 fun R hR S0=>J.r 7 [] [(5,.slice la na ca)] []<|J.ok (OK.bytes 6 52 9 la na ca xa kr kr (ha.sep S0) hpa)<|J.r 1 [] [(7,.slice lb nb cb)] []<|J.ok (OK.bytes 8 52 9 lb nb cb xb kr kr (hb.sep S0) hpb)<|J.e 3 [.bool ((bytesB xa).toList==(bytesB xb).toList)] func20 (hR _ _ ?_)
 exact⟨rfl,S0.nil⟩

theorem hb7:af prog 7:=fun _ _=>by kernel_rfl

theorem awake_any  (w:World) (hW:TabW w):Ret prog 7 #[] w (fun v w'=>v=.bool true∧Sep w [] w'):=by
 refine Ret.st (N:=35) func7 fun R hR S0=>?_
 have hpi:=parI_q (⟨#[109,117,108,32,114,50,32,114,48,32,114,49,32,49,55]⟩:ByteArray) w
 have hxs:(⟨#[109,117,108,32,114,50,32,114,48,32,114,49,32,49,55]⟩:ByteArray).size=15:=rfl
 refine J.cf 7 [] [] [] 7 hb18 (encode_any (⟨1,0,0,0,-5⟩:Ins) _ (show insQ _ (⟨1,0,0,0,-5⟩:Ins) from ⟨(show(-9223372036854775808)≤(1:Int)∧(1:Int)≤9223372036854775807 from by omega),(show(-9223372036854775808)≤(0:Int)∧(0:Int)≤9223372036854775807 from by omega),(show(-9223372036854775808)≤(0:Int)∧(0:Int)≤9223372036854775807 from by omega),(show(-9223372036854775808)≤(0:Int)∧(0:Int)≤9223372036854775807 from by omega),(show(-9223372036854775808)≤(-5:Int)∧(-5:Int)≤9223372036854775807 from by omega),trivial⟩)) ?_
 rintro _ w1 ⟨ra1,rc1,rfl,T1⟩
 have S1:Sep w [am (di (Value.int .u8)) ra1 rc1 5 1 (encX (⟨1,0,0,0,-5⟩:Ins))] w1:=S0.trans T1
 have:=encX_len (⟨1,0,0,0,-5⟩:Ins)
 refine J.c0 8 [] [(2,iv (encE (⟨1,0,0,0,-5⟩:Ins))),(1,.slice ra1 ((encX (⟨1,0,0,0,-5⟩:Ins)).length) rc1)] [] S1 11 hb19 (mparse_any (⟨#[109,117,108,32,114,50,32,114,48,32,114,49,32,49,55]⟩:ByteArray) _ om (tabW_sep hW S1)) fun w2 S2=>J.nw 3 [] [(13,iv (parIE (⟨#[109,117,108,32,114,50,32,114,48,32,114,49,32,49,55]⟩:ByteArray))),(12,.agg (dm (dK (⟨#[109,117,108,32,114,50,32,114,48,32,114,49,32,49,55]⟩:ByteArray))))] [] S2 3 [iv 0,iv 0,iv 0,iv 0,iv 0] 48 fun b1 w3 S3=>J.sb 0 [] [] [] S3 0 rfl (aR (dK (⟨#[109,117,108,32,114,50,32,114,48,32,114,49,32,49,55]⟩:ByteArray))) rfl fun w4 S4=>?_
 have fk2:(encE (⟨1,0,0,0,-5⟩:Ins))=0:=kr
 refine J.h 7 [] [(4,iv (parIE (⟨#[109,117,108,32,114,50,32,114,48,32,114,49,32,49,55]⟩:ByteArray)))] [] 16 (.bool ((encE (⟨1,0,0,0,-5⟩:Ins))==0)) (.bool true) (congrArg Value.bool (beq_iff_eq.2 fk2))<|J.r 1 [] [(17,.slice ra1 ((encX (⟨1,0,0,0,-5⟩:Ins)).length) rc1)] []<|J.newSlice S4 18 12 [.int .u8 1,.int .u8 0,.int .u8 0,.int .u8 0,.int .u8 255,.int .u8 255,.int .u8 255,.int .u8 255,.int .u8 255,.int .u8 255,.int .u8 255,.int .u8 251] 5 kr ?_
 intro b2 w5 S5
 have:=aB (S5.nth 2 rfl)
 have:=aB (S5.nth 2 rfl)
 refine J.c0 0 [] [] [] S5 19 hb20 (bequal_any ra1 ((encX (⟨1,0,0,0,-5⟩:Ins)).length) rc1 (encX (⟨1,0,0,0,-5⟩:Ins)) (some ⟨b2,0,none⟩) 12 12 ([1,0,0,0,255,255,255,255,255,255,255,251]) _ ((aD (S5.nth 2 rfl) ((encX (⟨1,0,0,0,-5⟩:Ins)).length) rO)) ((show Ones (Value.int .u8) w5 (some ⟨b2,0,none⟩) 12 [1,0,0,0,255,255,255,255,255,255,255,251] from ⟨rfl,bS (S5.nth 0 rfl)⟩)) (fun p hp=>by rw[rowOf_plain (S5.nth 2 rfl) p hp]) (fun p hp=>by cases hp;rfl)) fun w6 S6=>?_
 have fk4:((bytesB (encX (⟨1,0,0,0,-5⟩:Ins))).toList==(bytesB ([1,0,0,0,255,255,255,255,255,255,255,251])).toList)=true:=kr
 refine J.h 2 [] [] [] 21 (.bool ((bytesB (encX (⟨1,0,0,0,-5⟩:Ins))).toList==(bytesB ([1,0,0,0,255,255,255,255,255,255,255,251])).toList)) (.bool true) (congrArg Value.bool fk4) ?_
 have fk6:(parIE (⟨#[109,117,108,32,114,50,32,114,48,32,114,49,32,49,55]⟩:ByteArray))=0:=kr
 refine J.h 4 [] [] [] 25 (.bool ((parIE (⟨#[109,117,108,32,114,50,32,114,48,32,114,49,32,49,55]⟩:ByteArray))==0)) (.bool true) (congrArg Value.bool (beq_iff_eq.2 fk6))<|J.lb 0 [] [] [] S6 1 rfl 26 (.agg (dm (dK (⟨#[109,117,108,32,114,50,32,114,48,32,114,49,32,49,55]⟩:ByteArray))))<|J.r 1 [] [(27,.agg #[iv 7,iv 2,iv 0,iv 1,iv 17])] []<|J.ok (OK.eqS 28 true 48 (dm (dK (⟨#[109,117,108,32,114,50,32,114,48,32,114,49,32,49,55]⟩:ByteArray))) #[iv 7,iv 2,iv 0,iv 1,iv 17] ((((dK (⟨#[109,117,108,32,114,50,32,114,48,32,114,49,32,49,55]⟩:ByteArray)).gOp)==7)&&((((dK (⟨#[109,117,108,32,114,50,32,114,48,32,114,49,32,49,55]⟩:ByteArray)).gA)==2)&&((((dK (⟨#[109,117,108,32,114,50,32,114,48,32,114,49,32,49,55]⟩:ByteArray)).gB)==0)&&((((dK (⟨#[109,117,108,32,114,50,32,114,48,32,114,49,32,49,55]⟩:ByteArray)).gC)==1)&&((((dK (⟨#[109,117,108,32,114,50,32,114,48,32,114,49,32,49,55]⟩:ByteArray)).gK)==17)&&true))))) kr kr kr ((((dK (⟨#[109,117,108,32,114,50,32,114,48,32,114,49,32,49,55]⟩:ByteArray)).gOp)==7)&&((((dK (⟨#[109,117,108,32,114,50,32,114,48,32,114,49,32,49,55]⟩:ByteArray)).gA)==2)&&((((dK (⟨#[109,117,108,32,114,50,32,114,48,32,114,49,32,49,55]⟩:ByteArray)).gB)==0)&&((((dK (⟨#[109,117,108,32,114,50,32,114,48,32,114,49,32,49,55]⟩:ByteArray)).gC)==1)&&(((dK (⟨#[109,117,108,32,114,50,32,114,48,32,114,49,32,49,55]⟩:ByteArray)).gK)==17))))) (by simp)) ?_
 have fk8:((((dK (⟨#[109,117,108,32,114,50,32,114,48,32,114,49,32,49,55]⟩:ByteArray)).gOp)==7)&&((((dK (⟨#[109,117,108,32,114,50,32,114,48,32,114,49,32,49,55]⟩:ByteArray)).gA)==2)&&((((dK (⟨#[109,117,108,32,114,50,32,114,48,32,114,49,32,49,55]⟩:ByteArray)).gB)==0)&&((((dK (⟨#[109,117,108,32,114,50,32,114,48,32,114,49,32,49,55]⟩:ByteArray)).gC)==1)&&(((dK (⟨#[109,117,108,32,114,50,32,114,48,32,114,49,32,49,55]⟩:ByteArray)).gK)==17)))))=true:=kr
 refine J.h 2 [] [] [] 30 (.bool ((((dK (⟨#[109,117,108,32,114,50,32,114,48,32,114,49,32,49,55]⟩:ByteArray)).gOp)==7)&&((((dK (⟨#[109,117,108,32,114,50,32,114,48,32,114,49,32,49,55]⟩:ByteArray)).gA)==2)&&((((dK (⟨#[109,117,108,32,114,50,32,114,48,32,114,49,32,49,55]⟩:ByteArray)).gB)==0)&&((((dK (⟨#[109,117,108,32,114,50,32,114,48,32,114,49,32,49,55]⟩:ByteArray)).gC)==1)&&(((dK (⟨#[109,117,108,32,114,50,32,114,48,32,114,49,32,49,55]⟩:ByteArray)).gK)==17)))))) (.bool true) (congrArg Value.bool fk8)<|J.lb 0 [] [] [] S6 1 rfl 31 (.agg (dm (dK (⟨#[109,117,108,32,114,50,32,114,48,32,114,49,32,49,55]⟩:ByteArray))))<|J.c0 0 [] [] [] S6 32 hb21 (mtext_any (dK (⟨#[109,117,108,32,114,50,32,114,48,32,114,49,32,49,55]⟩:ByteArray)) _ (df hpi S6) (tabW_sep hW S6)) fun w7 S7=>J.e 4 [.bool ((textI (dK (⟨#[109,117,108,32,114,50,32,114,48,32,114,49,32,49,55]⟩:ByteArray))).toList==(⟨#[109,117,108,32,114,50,32,114,48,32,114,49,32,49,55]⟩:ByteArray).toList)] func7 (hR _ _ ?_)
 exact⟨congrArg Value.bool kr,S7.nil⟩
theorem getD_set_ne {l:List Int} {i j:Nat} {x:Int} (h:j≠i):(l.set i x).getD j 0=l.getD j 0:=by
  rw[List.getD_eq_getElem?_getD,List.getD_eq_getElem?_getD,List.getElem?_set_ne (fun e=>h e.symm)]
theorem runR_len (p:Prg) (n:Nat) (l xs:List Int):(runR p n l xs).length=16:=by
  unfold runR;split
  · unfold rgS;rw[(rnF_len _ _ _ _).1];rfl
  · rfl

theorem hb13:af prog 13:=fun _ _=>by kernel_rfl
def K13_0:=adv 24 [false] (bo Tryz.f13)
theorem eqints_any (la:Option Addr) (len cap:Nat) (l:List Int) (ma:Option Addr) (mn mc:Nat) (ml:List Int) (w:World) (hI:dk w la len l) (hJ:dk w ma mn ml) (hlen:len≤9223372036854775807):Ret prog 13 #[.slice la len cap,.slice ma mn mc] w (fun v w'=>v=.bool (l==ml)∧Sep w [] w'):=by
 refine Ret.st (N:=26) func13 fun R hR S0=>?_
 have hl2:=hI.len_eq
 have hm2:=hJ.len_eq
 refine J.cn 13 [] [] [] 10 ((len:Int)=(mn:Int)) (fun fk1=>?_) fun fk1=>?_
 have L13_1:∀ (mm_:Nat) (i:Int) (w1:World),(0≤i)→(i≤(len:Int))→(∀ j,j<(i).toNat→l.getD j 0=ml.getD j 0)→Sep w [] w1→((len:Int)-i).toNat=mm_→J prog 13 26 R K13_0 [(13,iv i),(12,iv (len:Int)),(0,.slice la len cap),(1,.slice ma mn mc)] w1:=by
  intro mm1
  induction mm1 using Nat.strongRecOn with
  | _ mm1 ih1 =>
  intro i w1 h0 h1 hq S1 hm1
  refine J.c 5 [] [] [] 14 (i<(len:Int)) (fun fk2=>?_) fun fk2=>?_
  refine J.r 10 [true] [(5,iv i)] [] ?_
  obtain ⟨p1,hp1,hc1⟩:=hI.at 0 (i).toNat om
  obtain ⟨p2,hp2,hc2⟩:=hJ.at 0 (i).toNat om
  refine J.drawStill S1 9 Tryz.mixed kr kr kr ?_
  intro w2 S2
  refine SL.r 16 (.slice la len cap)<|SL.r 17 (iv i)<|SL.ok dE (OK.index 18 26 1 la p1 len (i).toNat i (p1.add (i).toNat) kr kr hp1 om om nO)<|SL.ok dE (OK.ldCell 19 3 (p1.add (i).toNat) (iv (l.getD (i).toNat 0)) kr kr (S2.cell hc1))<|SL.r 20 (.slice ma mn mc)<|SL.r 21 (iv i)<|SL.ok dE (OK.index 22 26 1 ma p2 mn (i).toNat i (p2.add (i).toNat) kr kr hp2 om om nO)<|SL.ok dE (OK.ldCell 23 3 (p2.add (i).toNat) (iv (ml.getD (i).toNat 0)) kr kr (S2.cell hc2))<|SL.r 24 (.bool ((l.getD (i).toNat 0) != (ml.getD (i).toNat 0)))<|SL.done<|TL.done kr ?_
  refine J.cn 0 [] [] [] 24 ((l.getD (i).toNat 0)=(ml.getD (i).toNat 0)) (fun fk3=>?_) fun fk3=>?_
  exact J.wi 5 [false] [] [] 25 (i+1)<|J.t 3 (ih1 _ (show((len:Int)-(i+1)).toNat<mm1 from by omega) (i+1) w2 om om (by intro j hj;by_cases e:j=i.toNat;(subst e;exact fk3);exact hq j om) S2 rfl)
  refine J.e 5 [.bool false] func13 (hR _ _ ?_)
  exact⟨congrArg Value.bool (beq_at (i:=i.toNat) fk3).symm,S2.nil⟩
  refine J.e 6 [.bool true] func13 (hR _ _ ?_)
  exact⟨congrArg Value.bool (beq_all om fun j hj=>hq j om).symm,S1.nil⟩
 exact J.t 11 (L13_1 _ 0 w om om (by intro j hj;simp at hj) S0 rfl)
 refine J.e 5 [.bool false] func13 (hR _ _ ?_)
 exact⟨congrArg Value.bool (beq_no hl2 hm2 om).symm,S0.nil⟩

theorem same_mx (rx ry:List Int) (la:Option Addr) (na ca:Nat) (xl:List Int) (lb:Option Addr) (nb cb:Nat) (yl:List Int) (w:World) (hx:rx.length=16) (hy:ry.length=16) (ha:dk w la na xl) (hb:dk w lb nb yl) (hla:na≤9223372036854775807):Ret prog 11 #[.agg (mxA rx [.slice la na ca]),.agg (mxA ry [.slice lb nb cb])] w (fun v w'=>v=.bool (sameR rx ry xl yl)∧Sep w [] w'):=by
  obtain ⟨x0,x1,x2,x3,x4,x5,x6,x7,x8,x9,x10,x11,x12,x13,x14,x15,rfl⟩:=list16 hx
  obtain ⟨y0,y1,y2,y3,y4,y5,y6,y7,y8,y9,y10,y11,y12,y13,y14,y15,rfl⟩:=list16 hy
  exact same_any x0 x1 x2 x3 x4 x5 x6 x7 x8 x9 x10 x11 x12 x13 x14 x15 y0 y1 y2 y3 y4 y5 y6 y7 y8 y9 y10 y11 y12 y13 y14 y15 la na ca xl lb nb cb yl w ha hb hla
theorem hb3:af prog 3:=fun _ _=>by kernel_rfl

theorem lawruns_any (p:Prg) (rs:List Int) (la:Option Addr) (n c:Nat) (cs:List Int) (ia:Option Addr) (m ic:Nat) (xs:List Int) (w:World) (hrs:rs.length=16) (hp:prgQ w p) (hI:dk w la n cs) (hJ:dk w ia m xs) (hW:TabW w):Ret prog 3 #[.agg (eb p),.agg (mxA rs [.slice la n c]),.slice ia m ic] w (fun v w'=>v=.bool true∧Sep w [] w'):=by
 refine Ret.st (N:=72) func3 fun R hR S0=>?_
 obtain ⟨q1,q2,q3,q4,q5,q6,q7,q8,q9,q10,q11,q12,q13,q14,q15,q16,q17,q18,q19,q20,q21,q22,q23,q24,q25,_⟩:=id hp
 have ql1:=q2.len_eq
 have ql2:=q5.len_eq
 have ql3:=q8.len_eq
 have ql4:=q11.len_eq
 have ql5:=q15.len_eq
 have ql6:=q18.len_eq
 have ql7:=q21.len_eq
 have ql8:=q24.len_eq
 have hcl:=hI.len_eq
 have hxl:=hJ.len_eq
 refine J.nw 2 [] [] [] S0 3 (ba p) 28 fun b1 w1 S1=>J.new S1 4 (mxC rs [.slice la n c]) 31 kr ?_
 intro b2 w2 S2
 refine J.c0 5 [] [] [] S2 13 hb7 (awake_any  _ (tabW_sep hW S2)) fun w3 S3=>J.lb 7 [false] [] [] S3 1 rfl 15 (.agg (eb p))<|J.cf 0 [] [] [] 16 hb8 (great_any p _ (dN hp S3)) ?_
 rintro _ w4 ⟨gb1,rfl,T1⟩
 have S4:Sep w [box b2 (mxC rs [.slice la n c]) 31,box b1 (ba p) 28] w4:=S3.trans T1
 refine J.b 1 [] [] [] 17 gb1 (fun fk1=>?_) fun fk1=>?_
 refine J.e 16 [.bool true] func3 (hR _ _ ?_)
 exact⟨rfl,S4.nil⟩
 refine J.r 1 [] [(18,.pointer (some ⟨b2,16,none⟩))] []<|J.ok (OK.ldMt S4 0 rfl 19 26 16 aS0)<|J.c 4 [] [] [] 23 ((n:Int)>120) (fun fk2=>?_) fun fk2=>?_
 refine J.e 10 [.bool true] func3 (hR _ _ ?_)
 exact⟨rfl,S4.nil⟩
 refine J.c 5 [] [] [] 27 ((m:Int)>120) (fun fk3=>?_) fun fk3=>?_
 refine J.e 5 [.bool true] func3 (hR _ _ ?_)
 exact⟨rfl,S4.nil⟩
 refine J.lb 4 [false] [] [] S4 1 rfl 29 (.agg (eb p))<|J.ok (OK.ldM S4 0 rfl 30 31 16 aS0)<|J.r 1 [] [(31,.slice ia m ic)] []<|J.cf 0 [] [] [] 32 hb9 (run_any p rs la n c cs ia m ic xs _ aS0 (dN hp S4) (hI.sep S4) (hJ.sep S4) om) ?_
 rintro _ w5 ⟨ra1,rc1,ra2,rc2,rfl,T2⟩
 have S5:Sep w [am aM ra1 rc1 3 1 (eW p n cs xs),am aM ra2 rc2 3 1 (runO p n cs xs),box b2 (mxC rs [.slice la n c]) 31,box b1 (ba p) 28] w5:=S4.trans T2
 have:=runR_len p n cs xs
 refine J.r 4 [] [(35,iv (rgE p n cs xs)),(34,.slice ra2 ((runO p n cs xs).length) rc2),(33,.agg (mxA (runR p n cs xs) [.slice ra1 ((eW p n cs xs).length) rc1]))] []<|J.new S5 7 (mxC (List.replicate 16 (0:Int)) [.slice none 0 0]) 31 kr ?_
 intro b3 w6 S6
 refine J.stM S6 0 rfl 16 (runR p n cs xs) [.slice ra1 ((eW p n cs xs).length) rc1] rfl rfl aS0 fun w7 S7=>J.lb 6 [] [(9,iv (rgE p n cs xs)),(8,.slice ra2 ((runO p n cs xs).length) rc2)] [] S7 4 rfl 36 (.agg (eb p))<|J.c0 0 [] [] [] S7 37 hb10 (rpvalid_any p _ (dN hp S7)) fun w8 S8=>J.bn 2 [] [] [] 38 (dz p) (fun fk4=>?_) fun fk4=>?_
 have hv:=fk4
 refine J.lb 4 [false] [] [] S8 4 rfl 52 (.agg (eb p))<|J.ok (OK.ldM S8 3 rfl 53 31 16 aS0)<|J.r 1 [] [(54,.slice ia m ic)] []<|J.cf 0 [] [] [] 55 hb12 (rrun_any p rs la n c cs ia m ic xs _ aS0 (dN hp S8) (hI.sep S8) (hJ.sep S8) om hv) ?_
 rintro _ w9 ⟨ra3,rc3,ra4,rc4,rfl,T3⟩
 have S9:Sep w [am aM ra3 rc3 3 1 (eW p n cs xs),am aM ra4 rc4 3 1 (runO p n cs xs),box b3 (mxC (runR p n cs xs) [.slice ra1 ((eW p n cs xs).length) rc1]) 31,am aM ra1 rc1 3 1 (eW p n cs xs),am aM ra2 rc2 3 1 (runO p n cs xs),box b2 (mxC rs [.slice la n c]) 31,box b1 (ba p) 28] w9:=S8.trans T3
 have:=runR_len p n cs xs
 refine J.r 4 [] [(58,iv (rgE p n cs xs)),(57,.slice ra4 ((runO p n cs xs).length) rc4),(56,.agg (mxA (runR p n cs xs) [.slice ra3 ((eW p n cs xs).length) rc3]))] []<|J.new S9 10 (mxC (List.replicate 16 (0:Int)) [.slice none 0 0]) 31 kr ?_
 intro b4 w10 S10
 refine J.stM S10 0 rfl 16 (runR p n cs xs) [.slice ra3 ((eW p n cs xs).length) rc3] rfl rfl aS0 fun w11 S11=>J.r 5 [] [(12,iv (rgE p n cs xs)),(11,.slice ra4 ((runO p n cs xs).length) rc4)] []<|J.ok (OK.ldM S11 3 rfl 59 31 16 aS0)<|J.ok (OK.ldM S11 0 rfl 60 31 16 aS0) ?_
 have:=aB (S11.nth 4 rfl)
 have:=aB (S11.nth 1 rfl)
 refine J.c0 0 [] [] [] S11 61 hb11 (same_mx (runR p n cs xs) (runR p n cs xs) ra1 ((eW p n cs xs).length) rc1 (eW p n cs xs) ra3 ((eW p n cs xs).length) rc3 (eW p n cs xs) _ aS0 aS0 ((aD (S11.nth 4 rfl) ((eW p n cs xs).length) rO)) ((aD (S11.nth 1 rfl) ((eW p n cs xs).length) rO)) oz) fun w12 S12=>?_
 have fk6:(sameR (runR p n cs xs) (runR p n cs xs) (eW p n cs xs) (eW p n cs xs))=true:=sameR_refl _ _
 refine J.h 1 [] [] [] 62 (.bool (sameR (runR p n cs xs) (runR p n cs xs) (eW p n cs xs) (eW p n cs xs))) (.bool true) (congrArg Value.bool fk6)<|J.r 2 [] [(64,.slice ra4 ((runO p n cs xs).length) rc4),(63,.slice ra2 ((runO p n cs xs).length) rc2)] [] ?_
 have:=aB (S12.nth 5 rfl)
 have:=aB (S12.nth 2 rfl)
 refine J.c0 0 [] [] [] S12 65 hb13 (eqints_any ra2 ((runO p n cs xs).length) rc2 (runO p n cs xs) ra4 ((runO p n cs xs).length) rc4 (runO p n cs xs) _ ((aD (S12.nth 5 rfl) ((runO p n cs xs).length) rO)) ((aD (S12.nth 2 rfl) ((runO p n cs xs).length) rO)) oz) fun w13 S13=>?_
 have fk8:((runO p n cs xs)==(runO p n cs xs))=true:=beq_self_eq_true _
 refine J.h 2 [] [] [] 67 (.bool ((runO p n cs xs)==(runO p n cs xs))) (.bool true) (congrArg Value.bool fk8)<|J.h 3 [] [] [] 70 (.bool ((rgE p n cs xs)==(rgE p n cs xs))) (.bool true) (congrArg Value.bool (by simp))<|J.e 3 [.bool true] func3 (hR _ _ ?_)
 exact⟨rfl,S13.nil⟩
 have fk10:(rgE p n cs xs)=1:=rg_bad2 fk4
 refine J.h 6 [true] [] [] 41 (.bool ((rgE p n cs xs)==1)) (.bool true) (congrArg Value.bool (beq_iff_eq.2 fk10)) ?_
 have fk12:((runO p n cs xs).length:Int)=0:=by rw[(run_bad (p:=p) (n:=n) (l:=cs) (xs:=xs) fk10 om).2.2];rfl
 refine J.h 5 [] [] [] 46 (.bool (((runO p n cs xs).length:Int)==0)) (.bool true) (congrArg Value.bool (beq_iff_eq.2 fk12))<|J.ok (OK.ldM S8 0 rfl 47 31 16 aS0) ?_
 have:=aB (S8.nth 1 rfl)
 refine J.c0 1 [] [] [] S8 49 hb11 (same_mx (runR p n cs xs) (List.replicate 16 (0:Int)) ra1 ((eW p n cs xs).length) rc1 (eW p n cs xs) none 0 0 ([]) _ aS0 rfl ((aD (S8.nth 1 rfl) ((eW p n cs xs).length) rO)) (⟨rfl,fun j v hj=>by simp at hj⟩) oz) fun w14 S14=>J.e 3 [.bool (sameR (runR p n cs xs) (List.replicate 16 (0:Int)) (eW p n cs xs) ([]))] func3 (hR _ _ ?_)
 have fk13:(sameR (runR p n cs xs) (List.replicate 16 (0:Int)) (eW p n cs xs) ([]))=true:=by rw[(run_bad (p:=p) (n:=n) (l:=cs) (xs:=xs) fk10 om).1,(run_bad (p:=p) (n:=n) (l:=cs) (xs:=xs) fk10 om).2.1];exact sameR_refl _ _
 exact⟨congrArg Value.bool fk13,S14.nil⟩
end
end Go.Proofs.YtaoolgcddapegaaGreatDoor
