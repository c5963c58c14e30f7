/- The given statement ChartTextsSaid, proved: the law returns true whatever its arguments, and leaves them as they were. Conditions: none beyond the statement's own. -/
import Derived.Test.YtdneanhkcnfgdaaGreatDoorRows
import Derived.Test.YtdneanhkcnfgdaaGreatDoorZtEng4
import Derived.Test.YtdneanhkcnfgdaaGreatDoorZtR25
import Derived.WalkKit
import Derived.ProofKit
import Derived.Test.YtdneanhkcnfgdaaGreatDoorTie
import Derived.Test.YtdneanhkcnfgdaaGreatDoorCards
import Derived.LaidMore
import Derived.MakeChecks
import Derived.Stop.LaidErr
import Derived.Stop.Joined
import Derived.SevenTiedAt
import Derived.Lay
import Derived.Shelf.Vars
import Derived.OpenShut
import Derived.ShutString
import Derived.ChangeOld
import Derived.Below
set_option linter.unusedSimpArgs false
set_option linter.unusedVariables false
namespace Go.Proofs.YtdneanhkcnfgdaaGreatDoor.chartTexts
open Go.ChangeShapes Go.WideShapes Go.ChangeAt Go.RowKit Go.Eng
open Go.ChangeMaps (open_string shut_string)

theorem own:ownKnob Tryz.prog.godebug=none:=by kernel_rfl
theorem laidOut:laidOutB Tryz.prog=true:=by kernel_rfl
theorem arr4 {cs:Array Value} (h:cs.size=4):∃ c0 c1 c2 c3,cs=#[c0,c1,c2,c3]:=by
  obtain ⟨l⟩:=cs
  match l,h with
  | [c0,c1,c2,c3],_=>exact⟨c0,c1,c2,c3,rfl⟩
theorem lst5 {x:List Value} (h:x.length=5):∃ c0 c1 c2 c3 c4,x=[c0,c1,c2,c3,c4]:=by
  match x,h with
  | [c0,c1,c2,c3,c4],_=>exact⟨c0,c1,c2,c3,c4,rfl⟩
set_option maxRecDepth 100000 in
theorem el57 {H:Type} {enc:TypeId×Value→H} {W:World} (x:List Value) (hx:Tr enc Tryz.prog W 57 x):∃ y:Mv,x=mvE y∧mvQ W y:=by
  have hl:x.length=5:=(Tr.struct Tryz.underlying57 hx).1.trans (show Tryz.prog.cellsOf 57=5 by kernel_rfl)
  obtain ⟨c0,c1,c2,c3,c4,rfl⟩:=lst5 hl
  have hf_y_0:Tr enc Tryz.prog W 3 [c0]:=(Tr.struct Tryz.underlying57 hx).2 0 _ rfl
  have hf_y_1:Tr enc Tryz.prog W 3 [c1]:=(Tr.struct Tryz.underlying57 hx).2 1 _ rfl
  have hf_y_2:Tr enc Tryz.prog W 3 [c2]:=(Tr.struct Tryz.underlying57 hx).2 2 _ rfl
  have hf_y_3:Tr enc Tryz.prog W 3 [c3]:=(Tr.struct Tryz.underlying57 hx).2 3 _ rfl
  have hf_y_4:Tr enc Tryz.prog W 3 [c4]:=(Tr.struct Tryz.underlying57 hx).2 4 _ rfl
  obtain ⟨y_From,hx_,y_From_b0⟩:=Tr.int Tryz.underlying3 hf_y_0
  obtain rfl:c0=_:=by simpa using hx_
  clear hx_
  have y_From_b:(-9223372036854775808)≤y_From∧y_From≤9223372036854775807:=by simpa [IntKind.min,IntKind.max,IntKind.signed,IntKind.bits] using y_From_b0
  clear y_From_b0
  clear hf_y_0
  obtain ⟨y_To,hx_,y_To_b0⟩:=Tr.int Tryz.underlying3 hf_y_1
  obtain rfl:c1=_:=by simpa using hx_
  clear hx_
  have y_To_b:(-9223372036854775808)≤y_To∧y_To≤9223372036854775807:=by simpa [IntKind.min,IntKind.max,IntKind.signed,IntKind.bits] using y_To_b0
  clear y_To_b0
  clear hf_y_1
  obtain ⟨y_On,hx_,y_On_b0⟩:=Tr.int Tryz.underlying3 hf_y_2
  obtain rfl:c2=_:=by simpa using hx_
  clear hx_
  have y_On_b:(-9223372036854775808)≤y_On∧y_On≤9223372036854775807:=by simpa [IntKind.min,IntKind.max,IntKind.signed,IntKind.bits] using y_On_b0
  clear y_On_b0
  clear hf_y_2
  obtain ⟨y_Off,hx_,y_Off_b0⟩:=Tr.int Tryz.underlying3 hf_y_3
  obtain rfl:c3=_:=by simpa using hx_
  clear hx_
  have y_Off_b:(-9223372036854775808)≤y_Off∧y_Off≤9223372036854775807:=by simpa [IntKind.min,IntKind.max,IntKind.signed,IntKind.bits] using y_Off_b0
  clear y_Off_b0
  clear hf_y_3
  obtain ⟨y_After,hx_,y_After_b0⟩:=Tr.int Tryz.underlying3 hf_y_4
  obtain rfl:c4=_:=by simpa using hx_
  clear hx_
  have y_After_b:(-9223372036854775808)≤y_After∧y_After≤9223372036854775807:=by simpa [IntKind.min,IntKind.max,IntKind.signed,IntKind.bits] using y_After_b0
  clear y_After_b0
  clear hf_y_4
  exact⟨⟨y_From,y_To,y_On,y_Off,y_After⟩,rfl,⟨y_From_b,y_To_b,y_On_b,y_Off_b,y_After_b,trivial⟩⟩
def laid:List (String×DataW Unit):=Rows.chartTextsRow.laid
theorem starE: "*" ++ "errors.errorString" = "*errors.errorString" :=by decide
theorem rowE (u:TypeId) (h:Tryz.prog.typeName? 3 u=some "*errors.errorString"):u=148 :=
  typeName_ptr_named (nm:= "errors.errorString") (by rw[starE];kernel_rfl) kr dE u (by rw[starE];exact h)
theorem errW0 {W:World} (h:laidMet Tryz.prog laid W):ErrW W 2:=by
  have h2:laidMet Tryz.prog (laid.drop 5) W:=h.tail.tail.tail.tail.tail
  rw[show laid.drop 5=("strconv.ErrSyntax",.iface "*errors.errorString" (.ptr (.agg [.lit (.string [105,110,118,97,108,105,100,32,115,121,110,116,97,120])])))::laid.drop 6 by kernel_rfl] at h2
  obtain ⟨a0,s0,hv0, -, -, -⟩:=laid_sentinel (g:=2) (ti:=52) (tp:=148) (te:=150) (ts:=9) h2 kr kr Tryz.underlying52 rowE Tryz.underlying148 Tryz.underlying150 rfl rfl Tryz.underlying9 kr kr
  exact⟨_,by have h0:=World.var?_cell (g:=2) kr hv0 0;simpa using h0,.inr ⟨_,_,rfl⟩⟩
theorem errW1 {W:World} (h:laidMet Tryz.prog laid W):ErrW W 3:=by
  have h2:laidMet Tryz.prog (laid.drop 4) W:=h.tail.tail.tail.tail
  rw[show laid.drop 4=("strconv.ErrRange",.iface "*errors.errorString" (.ptr (.agg [.lit (.string [118,97,108,117,101,32,111,117,116,32,111,102,32,114,97,110,103,101])])))::laid.drop 5 by kernel_rfl] at h2
  obtain ⟨a0,s0,hv0, -, -, -⟩:=laid_sentinel (g:=3) (ti:=52) (tp:=148) (te:=150) (ts:=9) h2 kr kr Tryz.underlying52 rowE Tryz.underlying148 Tryz.underlying150 rfl rfl Tryz.underlying9 kr kr
  exact⟨_,by have h0:=World.var?_cell (g:=3) kr hv0 0;simpa using h0,.inr ⟨_,_,rfl⟩⟩
theorem of_laid {W:World} (h0:laidMetH Tryz.prog laid W∧W.ShapedOpen Tryz.prog):TabW W:=by
  obtain ⟨h,hs⟩:=h0
  rw[MakeChecks.laidMetH_plain _ _ _ kr] at h
  have h2:laidMet Tryz.prog (laid.drop 2) W:=h.tail.tail
  rw[show laid.drop 2=("internal/strconv.uint64pow10",Lib.tabData .u64 Lib.pow10Tab)::laid.drop 3 by kernel_rfl] at h2
  have ht:=Lib.tabIs_of_head (g:=1) kr kr Tryz.underlying117 Tryz.underlying107 kr kr h2
  exact⟨ht,errW0 h,errW1 h,Go.Proofs.cell_of_shapedOpen_int (g:=0) (t:=3) (k:=.i64) (zero:=#[.int .i64 0]) hs dE kr rF kr kr Tryz.underlying3⟩

set_option maxRecDepth 100000 in
theorem lifted (os:Os) (started:os.Started) (H:Type) (enc:TypeId×Value→H) :
    ReturnsInHanded {} Tryz.checked os 3 .any (fun w args=>(Rows.chartTextsSpec.pre enc Tryz.prog Tryz.f3 [] false w args∧laidMetH Tryz.prog laid w)∧sizedMet enc Tryz.prog Tryz.f3 (OpenSpec.ofChange Rows.chartTextsSpec) false w args) (Rows.chartTextsSpec.post enc Tryz.prog Tryz.f3 false true false false):=by
  refine handed_shaped (C:=Tryz.checked) (X:=fun w _=>laidMetH Tryz.prog laid w) (fun _ _ _ hh h=>h.of_heap hh) own started kr Tryz.func3
    (ChangeSpec.witness_shaped (enc:=enc) (C:=Tryz.checked) (os:=os) (X:=fun w _=>laidMetH Tryz.prog laid w) false (World.laidAll Tryz.prog os laid) #[.agg #[.slice none 0 0,.slice none 0 0,.int .i64 0,.slice none 0 0],.string ByteArray.empty] 8 (World.laidAll_os _ _ _) (World.shaped_of_ZipB kr kr) kr kr kr (by rw[MakeChecks.laidMetH_plain _ _ _ kr];exact laidMet_laidAll _ kr kr)) ?_
  intro W base args ds gs before hval0 hW hL0 hsh
  have hL:=And.intro hL0 hsh
  have hval:∀ (j:Nat) t v,Tryz.f3.params[j]? =some t→args[j]? =some v→Value.okWide Tryz.prog W .any base t v:=hval0
  have hW':=hW
  obtain ⟨p,q,hA0,hV,rfl,hfz,hnd⟩:=hW
  have hA:DataW.TrodAll enc Tryz.prog W 0 (fun _=>true) true Tryz.f3.params.toList args.toList ds p:=hA0
  rw[Tryz.params3] at hA hval
  obtain ⟨v0,vs0,d0,ds0,p0,q0,hargs,rfl,rfl,h0,r0⟩:=trodAll_cons hA
  obtain ⟨v1,vs1,d1,ds1,p1,q1,rfl,rfl,rfl,h1,r1⟩:=trodAll_cons r0
  obtain ⟨rfl,rfl,rfl⟩:=trodAll_nil r1
  obtain rfl:args=#[v0,v1]:=by cases args;simp_all
  obtain ⟨rfl,rfl⟩:=trodVars_none hV
  have k0:=h0
  have lt0:∀ x ∈ p0,x.block<W.heap.size:=by obtain ⟨m,hm⟩:=k0;exact DataW.trod_lt m _ _ _ hm
  obtain ⟨cs0,rfl,hs0⟩:=okWide_struct Tryz.underlying25 (hval 0 25 v0 rfl rfl)
  obtain ⟨c_c0,c_c1,c_c2,c_c3,rfl⟩:=arr4 (hs0.trans (show Tryz.prog.cellsOf 25=4 by kernel_rfl))
  have t0:Tr enc Tryz.prog W 25 [c_c0,c_c1,c_c2,c_c3]:=Tr.of h0
  have hf_c_0:Tr enc Tryz.prog W 22 [c_c0]:=(Tr.struct Tryz.underlying25 t0).2 0 _ rfl
  have hf_c_1:Tr enc Tryz.prog W 22 [c_c1]:=(Tr.struct Tryz.underlying25 t0).2 1 _ rfl
  have hf_c_2:Tr enc Tryz.prog W 3 [c_c2]:=(Tr.struct Tryz.underlying25 t0).2 2 _ rfl
  have hf_c_3:Tr enc Tryz.prog W 23 [c_c3]:=(Tr.struct Tryz.underlying25 t0).2 3 _ rfl
  obtain ⟨c_States_a,c_States_len,c_States_cap,hx_,c_States_hlen,c_States_l,c_States_q,c_States_h⟩:=Tr.ones (Value.string) (fun b=>b.size≤9223372036854775807) Tryz.underlying22 hf_c_0 (fun x hx=>by obtain ⟨b,h1,h2⟩:=Tr.string Tryz.underlying9 hx;exact⟨b,h1,by simpa [maxLen] using h2⟩)
  obtain rfl:c_c0=_:=by simpa using hx_
  clear hx_
  have c_States_cp:=Tr.cap Tryz.underlying22 hf_c_0
  clear hf_c_0
  obtain ⟨c_Inputs_a,c_Inputs_len,c_Inputs_cap,hx_,c_Inputs_hlen,c_Inputs_l,c_Inputs_q,c_Inputs_h⟩:=Tr.ones (Value.string) (fun b=>b.size≤9223372036854775807) Tryz.underlying22 hf_c_1 (fun x hx=>by obtain ⟨b,h1,h2⟩:=Tr.string Tryz.underlying9 hx;exact⟨b,h1,by simpa [maxLen] using h2⟩)
  obtain rfl:c_c1=_:=by simpa using hx_
  clear hx_
  have c_Inputs_cp:=Tr.cap Tryz.underlying22 hf_c_1
  clear hf_c_1
  obtain ⟨c_Start,hx_,c_Start_b0⟩:=Tr.int Tryz.underlying3 hf_c_2
  obtain rfl:c_c2=_:=by simpa using hx_
  clear hx_
  have c_Start_b:(-9223372036854775808)≤c_Start∧c_Start≤9223372036854775807:=by simpa [IntKind.min,IntKind.max,IntKind.signed,IntKind.bits] using c_Start_b0
  clear c_Start_b0
  clear hf_c_2
  obtain ⟨c_Moves_a,c_Moves_len,c_Moves_cap,hx_,c_Moves_hlen,c_Moves_l,c_Moves_ln,c_Moves_q,c_Moves_h⟩:=Tr.list (mvE) (mvQ W) Tryz.underlying23 hf_c_3 el57
  obtain rfl:c_c3=_:=by simpa using hx_
  clear hx_
  have c_Moves_cp:=Tr.cap Tryz.underlying23 hf_c_3
  clear hf_c_3
  have k1:=h1
  have lt1:∀ x ∈ p1,x.block<W.heap.size:=by obtain ⟨m,hm⟩:=k1;exact DataW.trod_lt m _ _ _ hm
  obtain ⟨s,rfl,rfl,rfl,s_w⟩:=open_string Tryz.underlying9 (hval 1 9 v1 rfl rfl) h1
  have s_b:s.size≤9223372036854775807:=by simpa [maxLen] using s_w
  clear hA0 hval0
  have hw:=lawtexts_any (⟨c_States_a,c_States_len,c_States_cap,c_States_l,c_Inputs_a,c_Inputs_len,c_Inputs_cap,c_Inputs_l,c_Start,c_Moves_a,c_Moves_len,c_Moves_cap,c_Moves_l⟩:Cht) s W ⟨c_States_cp,c_States_h,c_States_q,c_Inputs_cp,c_Inputs_h,c_Inputs_q,c_Start_b,c_Moves_cp,⟨c_Moves_ln,fun _=>rfl,dE,c_Moves_h⟩,c_Moves_q,trivial⟩ s_b (of_laid hL)
  refine Calls.mono hw fun e W' he=>?_
  obtain ⟨_,rfl,rfl,hS⟩:=he
  have bel:=hS.below
  exact⟨_,rfl,_,_,_,[],_,[],hW',trodAll_mk1 (shut_bool Tryz.underlying4 _),(trodAll_cons_mk (Below.trod laidOut kr (of_decide_eq_true kr) k0 bel lt0) (trodAll_cons_mk (Below.trod laidOut kr (of_decide_eq_true kr) k1 bel lt1) trodAll_mk0)),rfl,bel.frame _,fun h=>by cases h⟩

theorem over:Rows.chartTextsRow.holds Tryz.pinned (OpenSpec.ofChange Rows.chartTextsSpec) :=
  OpenClaim.holds_of_wide 3 Tryz.f3 rfl rfl rfl rfl rfl rfl rfl ⟨rfl,rfl,rfl,rfl,rfl⟩ rfl rfl rfl rfl rfl kr Tryz.func3 kr
    (of_decide_eq_true kr) (by unfold Func.isWrapper;first | (rw[if_pos (by decide +kernel)];kernel_rfl) | (rw[if_neg (by decide +kernel)];exact⟨rfl,rfl⟩))
    (fun os started H enc _=>lifted os started H enc)

theorem proved:Rows.ChartTextsCardSaid :=
  Claim7.holds_tied_plain_at .later [] [.data,.data,.data,.data,.sentinel,.sentinel,.pinned] true (true, "49328d64f646c5b8e1bde058e2edbee24c09612845b9bfe83bc7cc73071551dc") true over (fun _ h=>by cases h) kr (fun _ h=>by cases h) chartTexts_row_tie rfl ⟨rfl,rfl⟩ kr rfl
    (fun f fn hf hfn=>by
      obtain rfl:f=3:=Option.some.inj ((show Tryz.prog.funcNamed Rows.chartTextsRow.func=some 3 by kernel_rfl).symm.trans hf) |>.symm
      obtain rfl:fn=Tryz.f3:=(Option.some.inj (Tryz.func3.symm.trans hfn)).symm
      exact⟨kr,fun j t ht=>by
        rw[Tryz.params3] at ht
        have hm:t ∈ [25,9]:=by have:=Array.mem_of_getElem? ht;simpa [or_comm,or_left_comm] using this
        have hall:([25,9].all fun u=> !Tryz.prog.wantsStandIn u)=true:=by kernel_rfl
        exact(show Tryz.prog.wantsStandIn t=false by simpa using List.all_eq_true.1 hall t hm)⟩)
    kr
#print axioms proved
end Go.Proofs.YtdneanhkcnfgdaaGreatDoor.chartTexts

