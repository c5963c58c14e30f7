/- Walks of functions of this seat, printed by a program over the engine. Conditions: as each theorem says. -/
import Derived.Test.YtdneanhkcnfgdaaGreatDoorZtR12
set_option linter.unusedSimpArgs false
set_option linter.unusedVariables false
namespace Go.Proofs.YtdneanhkcnfgdaaGreatDoor
open Go.Eng Go.RowKit
set_option maxRecDepth 20000
set_option maxHeartbeats 20000000
def TokL (L:List Tk):Prop:=(1≤L.length∧L.length≤1000000)∧∀ j,j<L.length→1≤(L.getD j tk0).ag.size∧(L.getD j tk0).ag.size≤1000000
theorem tkOf_all {cur:List UInt8} {ln col:Int} {N:Nat} (h:cur.length≤N):(tkOf cur ln col).length≤cur.length∧∀ t ∈ tkOf cur ln col,1≤t.ag.size∧t.ag.size≤N:=by
  unfold tkOf
  split
  · exact⟨Nat.zero_le _,fun t ht=>by cases ht⟩
  · rename_i hc
    have h1:1≤cur.length:=by cases cur with | nil=>exact absurd rfl hc | cons x r=>simp
    refine⟨h1,fun t ht=>?_⟩
    rw[List.mem_singleton.1 ht]
    show 1≤cur.toArray.size∧cur.toArray.size≤N
    rw[List.size_toArray];exact⟨h1,h⟩
theorem lexC_all {N:Nat} (hN:1≤N):∀ (r cur:List UInt8) (ln col:Int),cur.length+r.length≤N→(cg r cur ln col).length≤cur.length+r.length∧∀ t ∈ cg r cur ln col,1≤t.ag.size∧t.ag.size≤N
  | [],cur,ln,col,h=>tkOf_all (by simpa using h)
  | c::r,cur,ln,col,h=>by
    simp only[List.length_cons] at h ⊢
    obtain ⟨t1,t2⟩:=tkOf_all (cur:=cur) (ln:=ln) (col:=col) (N:=N) om
    rw[cg]
    split
    · have ih:=lexC_all hN r (cur++[c]) ln (col+1) (by rw[List.length_append,List.length_singleton];omega)
      rw[List.length_append,List.length_singleton] at ih
      exact⟨om,ih.2⟩
    · obtain ⟨i1,i2⟩:=lexC_all hN r [] ln (col+1) (by simp only[List.length_nil];omega)
      simp only[List.length_nil] at i1
      split
      · refine⟨by rw[List.length_append,List.length_cons];omega,fun t ht=>?_⟩
        rcases List.mem_append.1 ht with ht | ht
        · exact t2 t ht
        · rcases List.mem_cons.1 ht with ht | ht
          · rw[ht];exact⟨Nat.le_refl 1,hN⟩
          · exact i2 t ht
      · refine⟨by rw[List.length_append];omega,fun t ht=>?_⟩
        rcases List.mem_append.1 ht with ht | ht
        · exact t2 t ht
        · exact i2 t ht
theorem linesC_all {N:Nat} (hN:1≤N):∀ (ps:List (List UInt8)) (ln:Int),(∀ p ∈ ps,p.length≤N)→∀ L ∈ bW ps ln,(1≤L.length∧L.length≤N)∧∀ t ∈ L,1≤t.ag.size∧t.ag.size≤N
  | [],_,_,L,hL=>by cases hL
  | p::ps,ln,h,L,hL=>by
    have ih:=linesC_all hN ps (ln+1) (fun q hq=>h q (List.mem_cons_of_mem _ hq)) L
    obtain ⟨a1,a2⟩:=lexC_all hN p [] ln 1 (by simpa using h p List.mem_cons_self)
    simp only[List.length_nil,Nat.zero_add] at a1
    have hp:=h p List.mem_cons_self
    unfold bW cI at hL
    split at hL
    · exact ih hL
    · rename_i hne
      rcases List.mem_cons.1 hL with hL | hL
      · rw[hL]
        refine⟨⟨?_,om⟩,a2⟩
        cases hx:cg p [] ln 1 with
        | nil=>exact absurd hx hne
        | cons x r=>simp
      · exact ih hL
theorem split_len (c:UInt8) (l:List UInt8):∀ p ∈ aF c l,p.length≤l.length:=by
  intro p hp
  have h1:=mem_flatten_len hp
  have h2:=splitOn_sum c l
  have h3:1≤(aF c l).length:=by
    cases hs:aF c l with
    | nil=>exact absurd hs (cb c l)
    | cons x r=>simp
  omega
theorem line_tok {s:ByteArray} {out:List Ln} {i:Nat} (hs:s.size≤1000000) (h:bW (aF 10 (ls s)) 1=out.map (fun x=>x.bS)) (hi:i<out.length):TokL (out.getD i (⟨none,0,0,[]⟩:Ln)).bS:=by
  have hm:(out.getD i (⟨none,0,0,[]⟩:Ln)).bS ∈ bW (aF 10 (ls s)) 1:=by
    rw[h,List.getD_eq_getElem?_getD,List.getElem?_eq_getElem hi]
    exact List.mem_map.2 ⟨_,List.getElem_mem hi,rfl⟩
  obtain ⟨h1,h2⟩:=linesC_all (N:=1000000) dE _ 1 (fun p hp=>by have:=split_len 10 (ls s) p hp;rw[bf] at this;omega) _ hm
  clear hm
  generalize (out.getD i (⟨none,0,0,[]⟩:Ln)).bS=L at *
  refine⟨h1,fun j hj=>h2 _ ?_⟩
  rw[List.getD_eq_getElem?_getD,List.getElem?_eq_getElem hj];exact List.getElem_mem hj
theorem ln_mem {out:List Ln} {i:Nat} (hi:i<out.length):out.getD i (⟨none,0,0,[]⟩:Ln) ∈ out:=by
  rw[List.getD_eq_getElem?_getD,List.getElem?_eq_getElem hi];exact List.getElem_mem hi
section
variable {s:ByteArray} {out:List Ln} {L:List Tk} {X:List (List Tk)} {i part st e a l c x:Int} {sts ins o:List ByteArray} {mvs:List Mv} {m:Mv} {full:Bool}
theorem pa_full (h:(16384:Int)<s.size):paF s=⟨[],[],0,[],0,0,5⟩:=if_pos h
theorem pa_lex (h:¬ (16384:Int)<s.size) (ho:okT s=false):paF s=⟨[],[],0,[],blT s,bcT s,3⟩:=(if_neg h).trans (if_neg (by rw[ho];decide))
theorem pa_first (h:¬ (16384:Int)<s.size) (ho:okT s=true) (hl:okT s=true→bW (aF 10 (ls s)) 1=out.map (fun x=>x.bS)):paF s=paG ((out.map (fun x=>x.bS)).drop (0:Int).toNat) 0 [] [] 0 []:=by
  unfold paF;rw[if_neg h,if_pos ho,hl ho];rfl
theorem pa_round (h:paF s=paG ((out.map (fun x=>x.bS)).drop i.toNat) part sts ins st mvs) (h0:0≤i) (hi:i<(out.length:Int)) (hL:L=(out.getD i.toNat (⟨none,0,0,[]⟩:Ln)).bS):paF s=paG (L::(out.map (fun x=>x.bS)).drop (i+1).toNat) part sts ins st mvs:=by
  have hi2:i.toNat<(out.map (fun x=>x.bS)).length:=by rw[List.length_map];omega
  rw[h,List.drop_eq_getElem_cons hi2,show(i+1).toNat=i.toNat+1 by omega,hL,List.getElem_map,List.getD_eq_getElem?_getD,List.getElem?_eq_getElem om];rfl
theorem pa_end (h:paF s=paG ((out.map (fun x=>x.bS)).drop i.toNat) part sts ins st mvs) (hi:(out.length:Int)≤i) (hp:part<3):paF s=⟨[],[],0,[],0,0,4⟩:=by
  rw[h,List.drop_eq_nil_of_le (by rw[List.length_map];omega)];exact if_pos hp
theorem pa_done (h:paF s=paG ((out.map (fun x=>x.bS)).drop i.toNat) part sts ins st mvs) (hi:(out.length:Int)≤i) (hp:¬ part<3):paF s=⟨sts,ins,st,mvs,0,0,0⟩:=by
  rw[h,List.drop_eq_nil_of_le (by rw[List.length_map];omega)];exact if_neg hp
theorem noC_of {Z:Pz} (hz:Rz Z e a l c) (he:e≠0):isZ Z=false∧noC Z=⟨[],[],0,[],l,c,e⟩:=by rw[rz_isno hz he];exact⟨rfl,rfl⟩
theorem pa_st_bad (h:paF s=paG (L::X) part sts ins st mvs) (hp:part=0) (hz:Rz (lsZ L 20 (wdZ L wStates (.ok 0))) e a l c) (he:e≠0):paF s=⟨[],[],0,[],l,c,e⟩:=by
  obtain ⟨h1,h2⟩:=noC_of hz he
  rw[h,paG,if_pos hp];simp only[h1,h2,Bool.false_eq_true,if_false]
theorem pa_st_ok (h:paF s=paG (L::X) part sts ins st mvs) (hp:part=0) (hz:Rz (lsZ L 20 (wdZ L wStates (.ok 0))) e a l c) (he:e=0) (ho:isZ (lsZ L 20 (wdZ L wStates (.ok 0)))=true→o=lsV L 20 (wdZ L wStates (.ok 0))):paF s=paG X 1 o ins st mvs:=by
  have h1:=(isZ_iff hz).2 he
  rw[h,paG,if_pos hp];simp only[h1,if_true];rw[ho h1]
theorem pa_in_bad (h:paF s=paG (L::X) part sts ins st mvs) (hp:part=1) (hm:mrB L cy (.ok 0)=true) (hz:Rz (lsZ L 10 (.ok 1)) e a l c) (he:e≠0):paF s=⟨[],[],0,[],l,c,e⟩:=by
  obtain ⟨h1,h2⟩:=noC_of hz he
  rw[h,paG,if_neg om,if_pos ⟨hp,hm⟩];simp only[h1,h2,Bool.false_eq_true,if_false]
theorem pa_in_ok (h:paF s=paG (L::X) part sts ins st mvs) (hp:part=1) (hm:mrB L cy (.ok 0)=true) (hz:Rz (lsZ L 10 (.ok 1)) e a l c) (he:e=0) (ho:isZ (lsZ L 10 (.ok 1))=true→o=lsV L 10 (.ok 1)):paF s=paG X 2 sts o st mvs:=by
  have h1:=(isZ_iff hz).2 he
  rw[h,paG,if_neg om,if_pos ⟨hp,hm⟩];simp only[h1,if_true];rw[ho h1]
theorem pa_go_bad (h:paF s=paG (L::X) part sts ins st mvs) (hp0:part≠0) (hp:¬ (part=1∧mrB L cy (.ok 0)=true)) (h3:part<3) (hz:Rz (stZ L sts) e a l c) (he:e≠0):paF s=⟨[],[],0,[],l,c,e⟩:=by
  obtain ⟨h1,h2⟩:=noC_of hz he
  rw[h,paG,if_neg hp0,if_neg hp,if_pos h3];simp only[h1,h2,Bool.false_eq_true,if_false]
theorem pa_go_ok (h:paF s=paG (L::X) part sts ins st mvs) (hp0:part≠0) (hp:¬ (part=1∧mrB L cy (.ok 0)=true)) (h3:part<3) (hz:Rz (stZ L sts) e a l c) (he:e=0) (hx:isZ (elZ L sts (wdZ L wStart (.ok 0)))=true→x=elV L sts (wdZ L wStart (.ok 0))):paF s=paG X 3 sts ins x mvs:=by
  have h1:=(isZ_iff hz).2 he
  rw[h,paG,if_neg hp0,if_neg hp,if_pos h3];simp only[h1,if_true];rw[hx (isZ_ed h1)]
theorem pa_mv_bad (h:paF s=paG (L::X) part sts ins st mvs) (h3:¬ part<3) (hz:Rz (mvZ L sts ins (decide (mvs.length=100))) e a l c) (he:e≠0):paF s=⟨[],[],0,[],l,c,e⟩:=by
  obtain ⟨h1,h2⟩:=noC_of hz he
  rw[h,paG,if_neg om,if_neg (fun h_=>om),if_neg h3];simp only[h1,h2,Bool.false_eq_true,if_false]
theorem pa_mv_ok (h:paF s=paG (L::X) part sts ins st mvs) (hp:part≤3) (h3:¬ part<3) (hz:Rz (mvZ L sts ins (decide (mvs.length=100))) e a l c) (he:e=0) (hx:isZ (mvZ L sts ins (decide (mvs.length=100)))=true→m=mvV L sts ins (decide (mvs.length=100))):paF s=paG X part sts ins st (mvs++[m]):=by
  have h1:=(isZ_iff hz).2 he
  obtain rfl:part=3:=by omega
  rw[h,paG,if_neg om,if_neg (fun h_=>om),if_neg h3];simp only[h1,if_true];rw[hx h1]
end

end Go.Proofs.YtdneanhkcnfgdaaGreatDoor

