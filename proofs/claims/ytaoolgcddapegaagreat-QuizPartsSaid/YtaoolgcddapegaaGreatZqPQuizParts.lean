/- The given statement QuizPartsSaid, proved: the law returns true whatever its arguments, and leaves them as they were. Conditions: none beyond the statement's own. -/
import Derived.Test.YtaoolgcddapegaaGreatRows
import Derived.Test.YtaoolgcddapegaaGreatZqEng4
import Derived.Test.YtaoolgcddapegaaGreatZqQ42
import Derived.WalkKit
import Derived.ProofKit
import Derived.OpenShut
import Derived.ShutString
import Derived.ChangeOld
import Derived.Below
set_option linter.unusedSimpArgs false
set_option linter.unusedVariables false
namespace Go.Proofs.YtaoolgcddapegaaGreat.quizParts
open Go.ChangeShapes Go.WideShapes Go.ChangeAt Go.RowKit Go.Eng
open Go.ChangeMaps (open_string shut_string)

theorem own:ownKnob Tryz.prog.godebug=none:=by kernel_rfl
theorem laidOut:laidOutB Tryz.prog=true:=by kernel_rfl
theorem arr9 {cs:Array Value} (h:cs.size=9):∃ c0 c1 c2 c3 c4 c5 c6 c7 c8,cs=#[c0,c1,c2,c3,c4,c5,c6,c7,c8]:=by
  obtain ⟨l⟩:=cs
  match l,h with
  | [c0,c1,c2,c3,c4,c5,c6,c7,c8],_=>exact⟨c0,c1,c2,c3,c4,c5,c6,c7,c8,rfl⟩
theorem lst5 {x:List Value} (h:x.length=5):∃ c0 c1 c2 c3 c4,x=[c0,c1,c2,c3,c4]:=by
  match x,h with
  | [c0,c1,c2,c3,c4],_=>exact⟨c0,c1,c2,c3,c4,rfl⟩
set_option maxRecDepth 100000 in
theorem el64 {H:Type} {enc:TypeId×Value→H} {W:World} (x:List Value) (hx:Tr enc Tryz.prog W 64 x):∃ y:Ins,x=insE y∧insQ W y:=by
  have hl:x.length=5:=(Tr.struct Tryz.underlying64 hx).1.trans (show Tryz.prog.cellsOf 64=5 by kernel_rfl)
  obtain ⟨c0,c1,c2,c3,c4,rfl⟩:=lst5 hl
  have hf_y_0:Tr enc Tryz.prog W 3 [c0]:=(Tr.struct Tryz.underlying64 hx).2 0 _ rfl
  have hf_y_1:Tr enc Tryz.prog W 3 [c1]:=(Tr.struct Tryz.underlying64 hx).2 1 _ rfl
  have hf_y_2:Tr enc Tryz.prog W 3 [c2]:=(Tr.struct Tryz.underlying64 hx).2 2 _ rfl
  have hf_y_3:Tr enc Tryz.prog W 3 [c3]:=(Tr.struct Tryz.underlying64 hx).2 3 _ rfl
  have hf_y_4:Tr enc Tryz.prog W 3 [c4]:=(Tr.struct Tryz.underlying64 hx).2 4 _ rfl
  obtain ⟨y_Op,hx_,y_Op_b0⟩:=Tr.int Tryz.underlying3 hf_y_0
  obtain rfl:c0=_:=by simpa using hx_
  clear hx_
  have y_Op_b:(-9223372036854775808)≤y_Op∧y_Op≤9223372036854775807:=by simpa [IntKind.min,IntKind.max,IntKind.signed,IntKind.bits] using y_Op_b0
  clear y_Op_b0
  clear hf_y_0
  obtain ⟨y_A,hx_,y_A_b0⟩:=Tr.int Tryz.underlying3 hf_y_1
  obtain rfl:c1=_:=by simpa using hx_
  clear hx_
  have y_A_b:(-9223372036854775808)≤y_A∧y_A≤9223372036854775807:=by simpa [IntKind.min,IntKind.max,IntKind.signed,IntKind.bits] using y_A_b0
  clear y_A_b0
  clear hf_y_1
  obtain ⟨y_B,hx_,y_B_b0⟩:=Tr.int Tryz.underlying3 hf_y_2
  obtain rfl:c2=_:=by simpa using hx_
  clear hx_
  have y_B_b:(-9223372036854775808)≤y_B∧y_B≤9223372036854775807:=by simpa [IntKind.min,IntKind.max,IntKind.signed,IntKind.bits] using y_B_b0
  clear y_B_b0
  clear hf_y_2
  obtain ⟨y_C,hx_,y_C_b0⟩:=Tr.int Tryz.underlying3 hf_y_3
  obtain rfl:c3=_:=by simpa using hx_
  clear hx_
  have y_C_b:(-9223372036854775808)≤y_C∧y_C≤9223372036854775807:=by simpa [IntKind.min,IntKind.max,IntKind.signed,IntKind.bits] using y_C_b0
  clear y_C_b0
  clear hf_y_3
  obtain ⟨y_K,hx_,y_K_b0⟩:=Tr.int Tryz.underlying3 hf_y_4
  obtain rfl:c4=_:=by simpa using hx_
  clear hx_
  have y_K_b:(-9223372036854775808)≤y_K∧y_K≤9223372036854775807:=by simpa [IntKind.min,IntKind.max,IntKind.signed,IntKind.bits] using y_K_b0
  clear y_K_b0
  clear hf_y_4
  exact⟨⟨y_Op,y_A,y_B,y_C,y_K⟩,rfl,⟨y_Op_b,y_A_b,y_B_b,y_C_b,y_K_b,trivial⟩⟩
theorem lst10 {x:List Value} (h:x.length=10):∃ c0 c1 c2 c3 c4 c5 c6 c7 c8 c9,x=[c0,c1,c2,c3,c4,c5,c6,c7,c8,c9]:=by
  match x,h with
  | [c0,c1,c2,c3,c4,c5,c6,c7,c8,c9],_=>exact⟨c0,c1,c2,c3,c4,c5,c6,c7,c8,c9,rfl⟩
set_option maxRecDepth 100000 in
theorem el54 {H:Type} {enc:TypeId×Value→H} {W:World} (x:List Value) (hx:Tr enc Tryz.prog W 54 x):∃ y:Fxd,x=fxdE y∧cA W y:=by
  have hl:x.length=10:=(Tr.struct Tryz.underlying54 hx).1.trans (show Tryz.prog.cellsOf 54=10 by kernel_rfl)
  obtain ⟨c0,c1,c2,c3,c4,c5,c6,c7,c8,c9,rfl⟩:=lst10 hl
  have hf_y_0:Tr enc Tryz.prog W 3 [c0]:=(Tr.struct Tryz.underlying54 hx).2 0 _ rfl
  have hf_y_1:Tr enc Tryz.prog W 4 [c1]:=(Tr.struct Tryz.underlying54 hx).2 1 _ rfl
  have hf_y_2:Tr enc Tryz.prog W 3 [c2]:=(Tr.struct Tryz.underlying54 hx).2 2 _ rfl
  have hf_y_3:Tr enc Tryz.prog W 3 [c3]:=(Tr.struct Tryz.underlying54 hx).2 3 _ rfl
  have hf_y_4:Tr enc Tryz.prog W 3 [c4]:=(Tr.struct Tryz.underlying54 hx).2 4 _ rfl
  have hf_y_5:Tr enc Tryz.prog W 52 [c5,c6,c7,c8,c9]:=(Tr.struct Tryz.underlying54 hx).2 5 _ rfl
  obtain ⟨y_Bits,hx_,y_Bits_b0⟩:=Tr.int Tryz.underlying3 hf_y_0
  obtain rfl:c0=_:=by simpa using hx_
  clear hx_
  have y_Bits_b:(-9223372036854775808)≤y_Bits∧y_Bits≤9223372036854775807:=by simpa [IntKind.min,IntKind.max,IntKind.signed,IntKind.bits] using y_Bits_b0
  clear y_Bits_b0
  clear hf_y_0
  obtain ⟨y_Signed,hx_⟩:=Tr.bool Tryz.underlying4 hf_y_1
  obtain rfl:c1=_:=by simpa using hx_
  clear hx_
  clear hf_y_1
  obtain ⟨y_Num,hx_,y_Num_b0⟩:=Tr.int Tryz.underlying3 hf_y_2
  obtain rfl:c2=_:=by simpa using hx_
  clear hx_
  have y_Num_b:(-9223372036854775808)≤y_Num∧y_Num≤9223372036854775807:=by simpa [IntKind.min,IntKind.max,IntKind.signed,IntKind.bits] using y_Num_b0
  clear y_Num_b0
  clear hf_y_2
  obtain ⟨y_Off,hx_,y_Off_b0⟩:=Tr.int Tryz.underlying3 hf_y_3
  obtain rfl:c3=_:=by simpa using hx_
  clear hx_
  have y_Off_b:(-9223372036854775808)≤y_Off∧y_Off≤9223372036854775807:=by simpa [IntKind.min,IntKind.max,IntKind.signed,IntKind.bits] using y_Off_b0
  clear y_Off_b0
  clear hf_y_3
  obtain ⟨y_Den,hx_,y_Den_b0⟩:=Tr.int Tryz.underlying3 hf_y_4
  obtain rfl:c4=_:=by simpa using hx_
  clear hx_
  have y_Den_b:(-9223372036854775808)≤y_Den∧y_Den≤9223372036854775807:=by simpa [IntKind.min,IntKind.max,IntKind.signed,IntKind.bits] using y_Den_b0
  clear y_Den_b0
  clear hf_y_4
  have hf_y_Unit_0:Tr enc Tryz.prog W 3 [c5]:=(Tr.struct Tryz.underlying52 hf_y_5).2 0 _ rfl
  have hf_y_Unit_1:Tr enc Tryz.prog W 3 [c6]:=(Tr.struct Tryz.underlying52 hf_y_5).2 1 _ rfl
  have hf_y_Unit_2:Tr enc Tryz.prog W 3 [c7]:=(Tr.struct Tryz.underlying52 hf_y_5).2 2 _ rfl
  have hf_y_Unit_3:Tr enc Tryz.prog W 3 [c8]:=(Tr.struct Tryz.underlying52 hf_y_5).2 3 _ rfl
  have hf_y_Unit_4:Tr enc Tryz.prog W 3 [c9]:=(Tr.struct Tryz.underlying52 hf_y_5).2 4 _ rfl
  obtain ⟨y_Unit_M,hx_,y_Unit_M_b0⟩:=Tr.int Tryz.underlying3 hf_y_Unit_0
  obtain rfl:c5=_:=by simpa using hx_
  clear hx_
  have y_Unit_M_b:(-9223372036854775808)≤y_Unit_M∧y_Unit_M≤9223372036854775807:=by simpa [IntKind.min,IntKind.max,IntKind.signed,IntKind.bits] using y_Unit_M_b0
  clear y_Unit_M_b0
  clear hf_y_Unit_0
  obtain ⟨y_Unit_Kg,hx_,y_Unit_Kg_b0⟩:=Tr.int Tryz.underlying3 hf_y_Unit_1
  obtain rfl:c6=_:=by simpa using hx_
  clear hx_
  have y_Unit_Kg_b:(-9223372036854775808)≤y_Unit_Kg∧y_Unit_Kg≤9223372036854775807:=by simpa [IntKind.min,IntKind.max,IntKind.signed,IntKind.bits] using y_Unit_Kg_b0
  clear y_Unit_Kg_b0
  clear hf_y_Unit_1
  obtain ⟨y_Unit_S,hx_,y_Unit_S_b0⟩:=Tr.int Tryz.underlying3 hf_y_Unit_2
  obtain rfl:c7=_:=by simpa using hx_
  clear hx_
  have y_Unit_S_b:(-9223372036854775808)≤y_Unit_S∧y_Unit_S≤9223372036854775807:=by simpa [IntKind.min,IntKind.max,IntKind.signed,IntKind.bits] using y_Unit_S_b0
  clear y_Unit_S_b0
  clear hf_y_Unit_2
  obtain ⟨y_Unit_A,hx_,y_Unit_A_b0⟩:=Tr.int Tryz.underlying3 hf_y_Unit_3
  obtain rfl:c8=_:=by simpa using hx_
  clear hx_
  have y_Unit_A_b:(-9223372036854775808)≤y_Unit_A∧y_Unit_A≤9223372036854775807:=by simpa [IntKind.min,IntKind.max,IntKind.signed,IntKind.bits] using y_Unit_A_b0
  clear y_Unit_A_b0
  clear hf_y_Unit_3
  obtain ⟨y_Unit_K,hx_,y_Unit_K_b0⟩:=Tr.int Tryz.underlying3 hf_y_Unit_4
  obtain rfl:c9=_:=by simpa using hx_
  clear hx_
  have y_Unit_K_b:(-9223372036854775808)≤y_Unit_K∧y_Unit_K≤9223372036854775807:=by simpa [IntKind.min,IntKind.max,IntKind.signed,IntKind.bits] using y_Unit_K_b0
  clear y_Unit_K_b0
  clear hf_y_Unit_4
  clear hf_y_5
  exact⟨⟨y_Bits,y_Signed,y_Num,y_Off,y_Den,y_Unit_M,y_Unit_Kg,y_Unit_S,y_Unit_A,y_Unit_K⟩,rfl,⟨y_Bits_b,y_Num_b,y_Off_b,y_Den_b,y_Unit_M_b,y_Unit_Kg_b,y_Unit_S_b,y_Unit_A_b,y_Unit_K_b,trivial⟩⟩
theorem lst2 {x:List Value} (h:x.length=2):∃ c0 c1,x=[c0,c1]:=by
  match x,h with
  | [c0,c1],_=>exact⟨c0,c1,rfl⟩
set_option maxRecDepth 100000 in
theorem el57 {H:Type} {enc:TypeId×Value→H} {W:World} (x:List Value) (hx:Tr enc Tryz.prog W 57 x):∃ y:Crv,x=crvE y∧crvQ W y:=by
  have hl:x.length=2:=(Tr.struct Tryz.underlying57 hx).1.trans (show Tryz.prog.cellsOf 57=2 by kernel_rfl)
  obtain ⟨c0,c1,rfl⟩:=lst2 hl
  have hf_y_0:Tr enc Tryz.prog W 26 [c0]:=(Tr.struct Tryz.underlying57 hx).2 0 _ rfl
  have hf_y_1:Tr enc Tryz.prog W 26 [c1]:=(Tr.struct Tryz.underlying57 hx).2 1 _ rfl
  obtain ⟨y_X_a,y_X_len,y_X_cap,hx_,y_X_hlen,y_X_l,y_X_q,y_X_h⟩:=Tr.ones (Value.int .i64) (fun n=>(-9223372036854775808)≤n∧n≤9223372036854775807) Tryz.underlying26 hf_y_0 (fun x hx=>by obtain ⟨n,h1,h2⟩:=Tr.int Tryz.underlying3 hx;exact⟨n,h1,by simpa [IntKind.min,IntKind.max,IntKind.signed,IntKind.bits] using h2⟩)
  obtain rfl:c0=_:=by simpa using hx_
  clear hx_
  have y_X_cp:=Tr.cap Tryz.underlying26 hf_y_0
  clear hf_y_0
  obtain ⟨y_Y_a,y_Y_len,y_Y_cap,hx_,y_Y_hlen,y_Y_l,y_Y_q,y_Y_h⟩:=Tr.ones (Value.int .i64) (fun n=>(-9223372036854775808)≤n∧n≤9223372036854775807) Tryz.underlying26 hf_y_1 (fun x hx=>by obtain ⟨n,h1,h2⟩:=Tr.int Tryz.underlying3 hx;exact⟨n,h1,by simpa [IntKind.min,IntKind.max,IntKind.signed,IntKind.bits] using h2⟩)
  obtain rfl:c1=_:=by simpa using hx_
  clear hx_
  have y_Y_cp:=Tr.cap Tryz.underlying26 hf_y_1
  clear hf_y_1
  exact⟨⟨y_X_a,y_X_len,y_X_cap,y_X_l,y_Y_a,y_Y_len,y_Y_cap,y_Y_l⟩,rfl,⟨y_X_cp,y_X_h,y_X_q,y_Y_cp,y_Y_h,y_Y_q,trivial⟩⟩
set_option maxRecDepth 100000 in
theorem el26 {H:Type} {enc:TypeId×Value→H} {W:World} (x:List Value) (hx:Tr enc Tryz.prog W 26 x):∃ y:Rw,x=rwE y∧rwQ W y:=by
  obtain ⟨c0,rfl⟩:∃ c0,x=[c0]:=by obtain ⟨a_,l_,k_,h_,_⟩:=Tr.slice Tryz.underlying26 hx;exact⟨_,h_⟩
  obtain ⟨y_a,y_len,y_cap,hx_,y_hlen,y_l,y_q,y_h⟩:=Tr.ones (Value.int .i64) (fun n=>(-9223372036854775808)≤n∧n≤9223372036854775807) Tryz.underlying26 hx (fun x hx=>by obtain ⟨n,h1,h2⟩:=Tr.int Tryz.underlying3 hx;exact⟨n,h1,by simpa [IntKind.min,IntKind.max,IntKind.signed,IntKind.bits] using h2⟩)
  obtain rfl:c0=_:=by simpa using hx_
  clear hx_
  have y_cp:=Tr.cap Tryz.underlying26 hx
  exact⟨⟨y_a,y_len,y_cap,y_l⟩,rfl,⟨y_cp,y_h,y_q,trivial⟩⟩
theorem lst3 {x:List Value} (h:x.length=3):∃ c0 c1 c2,x=[c0,c1,c2]:=by
  match x,h with
  | [c0,c1,c2],_=>exact⟨c0,c1,c2,rfl⟩
set_option maxRecDepth 100000 in
theorem el61 {H:Type} {enc:TypeId×Value→H} {W:World} (x:List Value) (hx:Tr enc Tryz.prog W 61 x):∃ y:Mp,x=mpE y∧mpQ W y:=by
  have hl:x.length=3:=(Tr.struct Tryz.underlying61 hx).1.trans (show Tryz.prog.cellsOf 61=3 by kernel_rfl)
  obtain ⟨c0,c1,c2,rfl⟩:=lst3 hl
  have hf_y_0:Tr enc Tryz.prog W 26 [c0]:=(Tr.struct Tryz.underlying61 hx).2 0 _ rfl
  have hf_y_1:Tr enc Tryz.prog W 26 [c1]:=(Tr.struct Tryz.underlying61 hx).2 1 _ rfl
  have hf_y_2:Tr enc Tryz.prog W 59 [c2]:=(Tr.struct Tryz.underlying61 hx).2 2 _ rfl
  obtain ⟨y_X_a,y_X_len,y_X_cap,hx_,y_X_hlen,y_X_l,y_X_q,y_X_h⟩:=Tr.ones (Value.int .i64) (fun n=>(-9223372036854775808)≤n∧n≤9223372036854775807) Tryz.underlying26 hf_y_0 (fun x hx=>by obtain ⟨n,h1,h2⟩:=Tr.int Tryz.underlying3 hx;exact⟨n,h1,by simpa [IntKind.min,IntKind.max,IntKind.signed,IntKind.bits] using h2⟩)
  obtain rfl:c0=_:=by simpa using hx_
  clear hx_
  have y_X_cp:=Tr.cap Tryz.underlying26 hf_y_0
  clear hf_y_0
  obtain ⟨y_Y_a,y_Y_len,y_Y_cap,hx_,y_Y_hlen,y_Y_l,y_Y_q,y_Y_h⟩:=Tr.ones (Value.int .i64) (fun n=>(-9223372036854775808)≤n∧n≤9223372036854775807) Tryz.underlying26 hf_y_1 (fun x hx=>by obtain ⟨n,h1,h2⟩:=Tr.int Tryz.underlying3 hx;exact⟨n,h1,by simpa [IntKind.min,IntKind.max,IntKind.signed,IntKind.bits] using h2⟩)
  obtain rfl:c1=_:=by simpa using hx_
  clear hx_
  have y_Y_cp:=Tr.cap Tryz.underlying26 hf_y_1
  clear hf_y_1
  obtain ⟨y_Z_a,y_Z_len,y_Z_cap,hx_,y_Z_hlen,y_Z_l,y_Z_ln,y_Z_q,y_Z_h⟩:=Tr.list (rwE) (rwQ W) Tryz.underlying59 hf_y_2 el26
  obtain rfl:c2=_:=by simpa using hx_
  clear hx_
  have y_Z_cp:=Tr.cap Tryz.underlying59 hf_y_2
  clear hf_y_2
  exact⟨⟨y_X_a,y_X_len,y_X_cap,y_X_l,y_Y_a,y_Y_len,y_Y_cap,y_Y_l,y_Z_a,y_Z_len,y_Z_cap,y_Z_l⟩,rfl,⟨y_X_cp,y_X_h,y_X_q,y_Y_cp,y_Y_h,y_Y_q,y_Z_cp,⟨y_Z_ln,fun _=>rfl,dE,y_Z_h⟩,y_Z_q,trivial⟩⟩
set_option maxRecDepth 100000 in
theorem lifted (os:Os) (started:os.Started) (H:Type) (enc:TypeId×Value→H) :
    ReturnsInHanded {} Tryz.checked os 3 .any (Rows.quizPartsSpec.pre6 enc Tryz.prog Tryz.f3 Rows.quizPartsRow.domain false) (Rows.quizPartsSpec.post enc Tryz.prog Tryz.f3 false true false false):=by
  refine returnsInHanded_of_change (C:=Tryz.checked) own started kr Tryz.func3
    (ChangeSpec.witness6 (enc:=enc) (C:=Tryz.checked) false ⟨#[],#[.agg #[.slice none 0 0,.slice none 0 0,.slice none 0 0,.slice none 0 0,.int .i64 0,.slice none 0 0,.slice none 0 0,.slice none 0 0,.slice none 0 0],.int .i64 0],[]⟩ 8 kr kr kr kr) ?_
  intro W base args ds gs before hval0 hW hcnd _
  have hval:∀ (j:Nat) t v,Tryz.f3.params[j]? =some t→args[j]? =some v→Value.okWide Tryz.prog W .any base t v:=hval0
  have hW':=hW
  obtain ⟨p,q,hA0,hV,rfl,hfz,hnd⟩:=hW
  have hA:DataW.TrodAll enc Tryz.prog W 0 (fun _=>true) true Tryz.f3.params.toList args.toList ds p:=hA0
  rw[Tryz.params3] at hA hval
  obtain ⟨v0,vs0,d0,ds0,p0,q0,hargs,rfl,rfl,h0,r0⟩:=trodAll_cons hA
  obtain ⟨v1,vs1,d1,ds1,p1,q1,rfl,rfl,rfl,h1,r1⟩:=trodAll_cons r0
  obtain ⟨rfl,rfl,rfl⟩:=trodAll_nil r1
  obtain rfl:args=#[v0,v1]:=by cases args;simp_all
  obtain ⟨rfl,rfl⟩:=trodVars_none hV
  have k0:=h0
  have lt0:∀ x ∈ p0,x.block<W.heap.size:=by obtain ⟨m,hm⟩:=k0;exact DataW.trod_lt m _ _ _ hm
  obtain ⟨cs0,rfl,hs0⟩:=okWide_struct Tryz.underlying28 (hval 0 28 v0 rfl rfl)
  obtain ⟨p_c0,p_c1,p_c2,p_c3,p_c4,p_c5,p_c6,p_c7,p_c8,rfl⟩:=arr9 (hs0.trans (show Tryz.prog.cellsOf 28=9 by kernel_rfl))
  have t0:Tr enc Tryz.prog W 28 [p_c0,p_c1,p_c2,p_c3,p_c4,p_c5,p_c6,p_c7,p_c8]:=Tr.of h0
  have hf_p_0:Tr enc Tryz.prog W 22 [p_c0]:=(Tr.struct Tryz.underlying28 t0).2 0 _ rfl
  have hf_p_1:Tr enc Tryz.prog W 23 [p_c1]:=(Tr.struct Tryz.underlying28 t0).2 1 _ rfl
  have hf_p_2:Tr enc Tryz.prog W 24 [p_c2]:=(Tr.struct Tryz.underlying28 t0).2 2 _ rfl
  have hf_p_3:Tr enc Tryz.prog W 25 [p_c3]:=(Tr.struct Tryz.underlying28 t0).2 3 _ rfl
  have hf_p_4:Tr enc Tryz.prog W 3 [p_c4]:=(Tr.struct Tryz.underlying28 t0).2 4 _ rfl
  have hf_p_5:Tr enc Tryz.prog W 26 [p_c5]:=(Tr.struct Tryz.underlying28 t0).2 5 _ rfl
  have hf_p_6:Tr enc Tryz.prog W 26 [p_c6]:=(Tr.struct Tryz.underlying28 t0).2 6 _ rfl
  have hf_p_7:Tr enc Tryz.prog W 26 [p_c7]:=(Tr.struct Tryz.underlying28 t0).2 7 _ rfl
  have hf_p_8:Tr enc Tryz.prog W 26 [p_c8]:=(Tr.struct Tryz.underlying28 t0).2 8 _ rfl
  obtain ⟨p_Code_a,p_Code_len,p_Code_cap,hx_,p_Code_hlen,p_Code_l,p_Code_ln,p_Code_q,p_Code_h⟩:=Tr.list (insE) (insQ W) Tryz.underlying22 hf_p_0 el64
  obtain rfl:p_c0=_:=by simpa using hx_
  clear hx_
  have p_Code_cp:=Tr.cap Tryz.underlying22 hf_p_0
  clear hf_p_0
  obtain ⟨p_Types_a,p_Types_len,p_Types_cap,hx_,p_Types_hlen,p_Types_l,p_Types_ln,p_Types_q,p_Types_h⟩:=Tr.list (fxdE) (cA W) Tryz.underlying23 hf_p_1 el54
  obtain rfl:p_c1=_:=by simpa using hx_
  clear hx_
  have p_Types_cp:=Tr.cap Tryz.underlying23 hf_p_1
  clear hf_p_1
  obtain ⟨p_Curves_a,p_Curves_len,p_Curves_cap,hx_,p_Curves_hlen,p_Curves_l,p_Curves_ln,p_Curves_q,p_Curves_h⟩:=Tr.list (crvE) (crvQ W) Tryz.underlying24 hf_p_2 el57
  obtain rfl:p_c2=_:=by simpa using hx_
  clear hx_
  have p_Curves_cp:=Tr.cap Tryz.underlying24 hf_p_2
  clear hf_p_2
  obtain ⟨p_Maps_a,p_Maps_len,p_Maps_cap,hx_,p_Maps_hlen,p_Maps_l,p_Maps_ln,p_Maps_q,p_Maps_h⟩:=Tr.list (mpE) (mpQ W) Tryz.underlying25 hf_p_3 el61
  obtain rfl:p_c3=_:=by simpa using hx_
  clear hx_
  have p_Maps_cp:=Tr.cap Tryz.underlying25 hf_p_3
  clear hf_p_3
  obtain ⟨p_Cells,hx_,p_Cells_b0⟩:=Tr.int Tryz.underlying3 hf_p_4
  obtain rfl:p_c4=_:=by simpa using hx_
  clear hx_
  have p_Cells_b:(-9223372036854775808)≤p_Cells∧p_Cells≤9223372036854775807:=by simpa [IntKind.min,IntKind.max,IntKind.signed,IntKind.bits] using p_Cells_b0
  clear p_Cells_b0
  clear hf_p_4
  obtain ⟨p_Inputs_a,p_Inputs_len,p_Inputs_cap,hx_,p_Inputs_hlen,p_Inputs_l,p_Inputs_q,p_Inputs_h⟩:=Tr.ones (Value.int .i64) (fun n=>(-9223372036854775808)≤n∧n≤9223372036854775807) Tryz.underlying26 hf_p_5 (fun x hx=>by obtain ⟨n,h1,h2⟩:=Tr.int Tryz.underlying3 hx;exact⟨n,h1,by simpa [IntKind.min,IntKind.max,IntKind.signed,IntKind.bits] using h2⟩)
  obtain rfl:p_c5=_:=by simpa using hx_
  clear hx_
  have p_Inputs_cp:=Tr.cap Tryz.underlying26 hf_p_5
  clear hf_p_5
  obtain ⟨p_States_a,p_States_len,p_States_cap,hx_,p_States_hlen,p_States_l,p_States_q,p_States_h⟩:=Tr.ones (Value.int .i64) (fun n=>(-9223372036854775808)≤n∧n≤9223372036854775807) Tryz.underlying26 hf_p_6 (fun x hx=>by obtain ⟨n,h1,h2⟩:=Tr.int Tryz.underlying3 hx;exact⟨n,h1,by simpa [IntKind.min,IntKind.max,IntKind.signed,IntKind.bits] using h2⟩)
  obtain rfl:p_c6=_:=by simpa using hx_
  clear hx_
  have p_States_cp:=Tr.cap Tryz.underlying26 hf_p_6
  clear hf_p_6
  obtain ⟨p_Outputs_a,p_Outputs_len,p_Outputs_cap,hx_,p_Outputs_hlen,p_Outputs_l,p_Outputs_q,p_Outputs_h⟩:=Tr.ones (Value.int .i64) (fun n=>(-9223372036854775808)≤n∧n≤9223372036854775807) Tryz.underlying26 hf_p_7 (fun x hx=>by obtain ⟨n,h1,h2⟩:=Tr.int Tryz.underlying3 hx;exact⟨n,h1,by simpa [IntKind.min,IntKind.max,IntKind.signed,IntKind.bits] using h2⟩)
  obtain rfl:p_c7=_:=by simpa using hx_
  clear hx_
  have p_Outputs_cp:=Tr.cap Tryz.underlying26 hf_p_7
  clear hf_p_7
  obtain ⟨p_Initial_a,p_Initial_len,p_Initial_cap,hx_,p_Initial_hlen,p_Initial_l,p_Initial_q,p_Initial_h⟩:=Tr.ones (Value.int .i64) (fun n=>(-9223372036854775808)≤n∧n≤9223372036854775807) Tryz.underlying26 hf_p_8 (fun x hx=>by obtain ⟨n,h1,h2⟩:=Tr.int Tryz.underlying3 hx;exact⟨n,h1,by simpa [IntKind.min,IntKind.max,IntKind.signed,IntKind.bits] using h2⟩)
  obtain rfl:p_c8=_:=by simpa using hx_
  clear hx_
  have p_Initial_cp:=Tr.cap Tryz.underlying26 hf_p_8
  clear hf_p_8
  have k1:=h1
  have lt1:∀ x ∈ p1,x.block<W.heap.size:=by obtain ⟨m,hm⟩:=k1;exact DataW.trod_lt m _ _ _ hm
  obtain ⟨q,rfl,rfl,rfl,q_w⟩:=open_int Tryz.underlying3 (hval 1 3 v1 rfl rfl) h1
  have q_b:=bounds_i64 q_w
  clear hA0 hval0
  have hw:=lawparts_any (⟨p_Code_a,p_Code_len,p_Code_cap,p_Code_l,p_Types_a,p_Types_len,p_Types_cap,p_Types_l,p_Curves_a,p_Curves_len,p_Curves_cap,p_Curves_l,p_Maps_a,p_Maps_len,p_Maps_cap,p_Maps_l,p_Cells,p_Inputs_a,p_Inputs_len,p_Inputs_cap,p_Inputs_l,p_States_a,p_States_len,p_States_cap,p_States_l,p_Outputs_a,p_Outputs_len,p_Outputs_cap,p_Outputs_l,p_Initial_a,p_Initial_len,p_Initial_cap,p_Initial_l⟩:Prg) q W ⟨p_Code_cp,⟨p_Code_ln,fun _=>rfl,dE,p_Code_h⟩,p_Code_q,p_Types_cp,⟨p_Types_ln,fun _=>rfl,dE,p_Types_h⟩,p_Types_q,p_Curves_cp,⟨p_Curves_ln,fun _=>rfl,dE,p_Curves_h⟩,p_Curves_q,p_Maps_cp,⟨p_Maps_ln,fun _=>rfl,dE,p_Maps_h⟩,p_Maps_q,p_Cells_b,p_Inputs_cp,p_Inputs_h,p_Inputs_q,p_States_cp,p_States_h,p_States_q,p_Outputs_cp,p_Outputs_h,p_Outputs_q,p_Initial_cp,p_Initial_h,p_Initial_q,trivial⟩
  refine Calls.mono hw fun e W' he=>?_
  obtain ⟨_,rfl,rfl,hS⟩:=he
  have bel:=hS.below
  exact⟨_,rfl,_,_,_,[],_,[],hW',trodAll_mk1 (shut_bool Tryz.underlying4 _),(trodAll_cons_mk (Below.trod laidOut kr (of_decide_eq_true kr) k0 bel lt0) (trodAll_cons_mk (Below.trod laidOut kr (of_decide_eq_true kr) k1 bel lt1) trodAll_mk0)),rfl,bel.frame _,fun h=>by cases h⟩

theorem over:Rows.quizPartsRow.holds Tryz.pinned (OpenSpec.ofChange Rows.quizPartsSpec) :=
  OpenClaim.holds_of_wide 3 Tryz.f3 rfl rfl rfl rfl rfl rfl rfl ⟨rfl,rfl,rfl,rfl,rfl⟩ rfl rfl rfl rfl rfl kr Tryz.func3 kr
    (of_decide_eq_true kr) (by unfold Func.isWrapper;first | (rw[if_pos (by decide +kernel)];kernel_rfl) | (rw[if_neg (by decide +kernel)];exact⟨rfl,rfl⟩))
    (fun os started H enc _=>lifted os started H enc)

theorem proved:Rows.QuizPartsSaid:=over
#print axioms proved
end Go.Proofs.YtaoolgcddapegaaGreat.quizParts

