/- The given statement MachineRunsSaid, proved: the law returns true whatever its arguments, and leaves them as they were. Conditions: none beyond the statement's own. -/
import Derived.Test.YtaoolgcddapegaaGreatDoorRows
import Derived.Test.YtaoolgcddapegaaGreatDoorZrEng4
import Derived.Test.YtaoolgcddapegaaGreatDoorZrW27
import Derived.WalkKit
import Derived.ProofKit
import Derived.Test.YtaoolgcddapegaaGreatDoorTie
import Derived.Test.YtaoolgcddapegaaGreatDoorCards
import Derived.LaidMore
import Derived.MakeChecks
import Derived.Stop.LaidErr
import Derived.Stop.Joined
import Derived.SevenTiedAt
import Derived.Lay
import Derived.Shelf.Vars
import Derived.OpenShut
import Derived.ShutString
import Derived.ChangeOld
import Derived.Below
set_option linter.unusedSimpArgs false
set_option linter.unusedVariables false
namespace Go.Proofs.YtaoolgcddapegaaGreatDoor.machineRuns
open Go.ChangeShapes Go.WideShapes Go.ChangeAt Go.RowKit Go.Eng
open Go.ChangeMaps (open_string shut_string)

theorem ik {n:Int} (h:IntKind.min .i64≤n∧n≤IntKind.max .i64):(-9223372036854775808)≤n∧n≤9223372036854775807:=by simpa [IntKind.min,IntKind.max,IntKind.signed,IntKind.bits] using h
theorem own:ownKnob Tryz.prog.godebug=none:=by kernel_rfl
theorem laidOut:laidOutB Tryz.prog=true:=by kernel_rfl
theorem arr9 {cs:Array Value} (h:cs.size=9):∃ c0 c1 c2 c3 c4 c5 c6 c7 c8,cs=#[c0,c1,c2,c3,c4,c5,c6,c7,c8]:=by
  obtain ⟨l⟩:=cs
  match l,h with
  | [c0,c1,c2,c3,c4,c5,c6,c7,c8],_=>exact⟨c0,c1,c2,c3,c4,c5,c6,c7,c8,rfl⟩
theorem arr17 {cs:Array Value} (h:cs.size=17):∃ c0 c1 c2 c3 c4 c5 c6 c7 c8 c9 c10 c11 c12 c13 c14 c15 c16,cs=#[c0,c1,c2,c3,c4,c5,c6,c7,c8,c9,c10,c11,c12,c13,c14,c15,c16]:=by
  obtain ⟨l⟩:=cs
  match l,h with
  | [c0,c1,c2,c3,c4,c5,c6,c7,c8,c9,c10,c11,c12,c13,c14,c15,c16],_=>exact⟨c0,c1,c2,c3,c4,c5,c6,c7,c8,c9,c10,c11,c12,c13,c14,c15,c16,rfl⟩
theorem lst5 {x:List Value} (h:x.length=5):∃ c0 c1 c2 c3 c4,x=[c0,c1,c2,c3,c4]:=by
  match x,h with
  | [c0,c1,c2,c3,c4],_=>exact⟨c0,c1,c2,c3,c4,rfl⟩
set_option maxRecDepth 100000 in
theorem el48 {H:Type} {enc:TypeId×Value→H} {W:World} (x:List Value) (hx:Tr enc Tryz.prog W 48 x):∃ y:Ins,x=insE y∧insQ W y:=by
  have hl:x.length=5:=(Tr.struct Tryz.underlying48 hx).1.trans (show Tryz.prog.cellsOf 48=5 by kernel_rfl)
  obtain ⟨c0,c1,c2,c3,c4,rfl⟩:=lst5 hl
  have hf_y_0:Tr enc Tryz.prog W 3 [c0]:=(Tr.struct Tryz.underlying48 hx).2 0 _ rfl
  have hf_y_1:Tr enc Tryz.prog W 3 [c1]:=(Tr.struct Tryz.underlying48 hx).2 1 _ rfl
  have hf_y_2:Tr enc Tryz.prog W 3 [c2]:=(Tr.struct Tryz.underlying48 hx).2 2 _ rfl
  have hf_y_3:Tr enc Tryz.prog W 3 [c3]:=(Tr.struct Tryz.underlying48 hx).2 3 _ rfl
  have hf_y_4:Tr enc Tryz.prog W 3 [c4]:=(Tr.struct Tryz.underlying48 hx).2 4 _ rfl
  obtain ⟨y_Op,hx_,y_Op_b0⟩:=Tr.int Tryz.underlying3 hf_y_0
  obtain rfl:c0=_:=by simpa using hx_
  clear hx_
  have y_Op_b:=ik y_Op_b0
  clear y_Op_b0
  obtain ⟨y_A,hx_,y_A_b0⟩:=Tr.int Tryz.underlying3 hf_y_1
  obtain rfl:c1=_:=by simpa using hx_
  clear hx_
  have y_A_b:=ik y_A_b0
  clear y_A_b0
  obtain ⟨y_B,hx_,y_B_b0⟩:=Tr.int Tryz.underlying3 hf_y_2
  obtain rfl:c2=_:=by simpa using hx_
  clear hx_
  have y_B_b:=ik y_B_b0
  clear y_B_b0
  obtain ⟨y_C,hx_,y_C_b0⟩:=Tr.int Tryz.underlying3 hf_y_3
  obtain rfl:c3=_:=by simpa using hx_
  clear hx_
  have y_C_b:=ik y_C_b0
  clear y_C_b0
  obtain ⟨y_K,hx_,y_K_b0⟩:=Tr.int Tryz.underlying3 hf_y_4
  obtain rfl:c4=_:=by simpa using hx_
  clear hx_
  have y_K_b:=ik y_K_b0
  clear y_K_b0
  exact⟨⟨y_Op,y_A,y_B,y_C,y_K⟩,rfl,⟨y_Op_b,y_A_b,y_B_b,y_C_b,y_K_b,trivial⟩⟩
theorem lst10 {x:List Value} (h:x.length=10):∃ c0 c1 c2 c3 c4 c5 c6 c7 c8 c9,x=[c0,c1,c2,c3,c4,c5,c6,c7,c8,c9]:=by
  match x,h with
  | [c0,c1,c2,c3,c4,c5,c6,c7,c8,c9],_=>exact⟨c0,c1,c2,c3,c4,c5,c6,c7,c8,c9,rfl⟩
set_option maxRecDepth 100000 in
theorem el75 {H:Type} {enc:TypeId×Value→H} {W:World} (x:List Value) (hx:Tr enc Tryz.prog W 75 x):∃ y:Fxd,x=fxdE y∧cE W y:=by
  have hl:x.length=10:=(Tr.struct Tryz.underlying75 hx).1.trans (show Tryz.prog.cellsOf 75=10 by kernel_rfl)
  obtain ⟨c0,c1,c2,c3,c4,c5,c6,c7,c8,c9,rfl⟩:=lst10 hl
  have hf_y_0:Tr enc Tryz.prog W 3 [c0]:=(Tr.struct Tryz.underlying75 hx).2 0 _ rfl
  have hf_y_1:Tr enc Tryz.prog W 4 [c1]:=(Tr.struct Tryz.underlying75 hx).2 1 _ rfl
  have hf_y_2:Tr enc Tryz.prog W 3 [c2]:=(Tr.struct Tryz.underlying75 hx).2 2 _ rfl
  have hf_y_3:Tr enc Tryz.prog W 3 [c3]:=(Tr.struct Tryz.underlying75 hx).2 3 _ rfl
  have hf_y_4:Tr enc Tryz.prog W 3 [c4]:=(Tr.struct Tryz.underlying75 hx).2 4 _ rfl
  have hf_y_5:Tr enc Tryz.prog W 73 [c5,c6,c7,c8,c9]:=(Tr.struct Tryz.underlying75 hx).2 5 _ rfl
  obtain ⟨y_Bits,hx_,y_Bits_b0⟩:=Tr.int Tryz.underlying3 hf_y_0
  obtain rfl:c0=_:=by simpa using hx_
  clear hx_
  have y_Bits_b:=ik y_Bits_b0
  clear y_Bits_b0
  obtain ⟨y_Signed,hx_⟩:=Tr.bool Tryz.underlying4 hf_y_1
  obtain rfl:c1=_:=by simpa using hx_
  clear hx_
  obtain ⟨y_Num,hx_,y_Num_b0⟩:=Tr.int Tryz.underlying3 hf_y_2
  obtain rfl:c2=_:=by simpa using hx_
  clear hx_
  have y_Num_b:=ik y_Num_b0
  clear y_Num_b0
  obtain ⟨y_Off,hx_,y_Off_b0⟩:=Tr.int Tryz.underlying3 hf_y_3
  obtain rfl:c3=_:=by simpa using hx_
  clear hx_
  have y_Off_b:=ik y_Off_b0
  clear y_Off_b0
  obtain ⟨y_Den,hx_,y_Den_b0⟩:=Tr.int Tryz.underlying3 hf_y_4
  obtain rfl:c4=_:=by simpa using hx_
  clear hx_
  have y_Den_b:=ik y_Den_b0
  clear y_Den_b0
  have hf_y_Unit_0:Tr enc Tryz.prog W 3 [c5]:=(Tr.struct Tryz.underlying73 hf_y_5).2 0 _ rfl
  have hf_y_Unit_1:Tr enc Tryz.prog W 3 [c6]:=(Tr.struct Tryz.underlying73 hf_y_5).2 1 _ rfl
  have hf_y_Unit_2:Tr enc Tryz.prog W 3 [c7]:=(Tr.struct Tryz.underlying73 hf_y_5).2 2 _ rfl
  have hf_y_Unit_3:Tr enc Tryz.prog W 3 [c8]:=(Tr.struct Tryz.underlying73 hf_y_5).2 3 _ rfl
  have hf_y_Unit_4:Tr enc Tryz.prog W 3 [c9]:=(Tr.struct Tryz.underlying73 hf_y_5).2 4 _ rfl
  obtain ⟨y_Unit_M,hx_,y_Unit_M_b0⟩:=Tr.int Tryz.underlying3 hf_y_Unit_0
  obtain rfl:c5=_:=by simpa using hx_
  clear hx_
  have y_Unit_M_b:=ik y_Unit_M_b0
  clear y_Unit_M_b0
  obtain ⟨y_Unit_Kg,hx_,y_Unit_Kg_b0⟩:=Tr.int Tryz.underlying3 hf_y_Unit_1
  obtain rfl:c6=_:=by simpa using hx_
  clear hx_
  have y_Unit_Kg_b:=ik y_Unit_Kg_b0
  clear y_Unit_Kg_b0
  obtain ⟨y_Unit_S,hx_,y_Unit_S_b0⟩:=Tr.int Tryz.underlying3 hf_y_Unit_2
  obtain rfl:c7=_:=by simpa using hx_
  clear hx_
  have y_Unit_S_b:=ik y_Unit_S_b0
  clear y_Unit_S_b0
  obtain ⟨y_Unit_A,hx_,y_Unit_A_b0⟩:=Tr.int Tryz.underlying3 hf_y_Unit_3
  obtain rfl:c8=_:=by simpa using hx_
  clear hx_
  have y_Unit_A_b:=ik y_Unit_A_b0
  clear y_Unit_A_b0
  obtain ⟨y_Unit_K,hx_,y_Unit_K_b0⟩:=Tr.int Tryz.underlying3 hf_y_Unit_4
  obtain rfl:c9=_:=by simpa using hx_
  clear hx_
  have y_Unit_K_b:=ik y_Unit_K_b0
  clear y_Unit_K_b0
  exact⟨⟨y_Bits,y_Signed,y_Num,y_Off,y_Den,y_Unit_M,y_Unit_Kg,y_Unit_S,y_Unit_A,y_Unit_K⟩,rfl,⟨y_Bits_b,y_Num_b,y_Off_b,y_Den_b,y_Unit_M_b,y_Unit_Kg_b,y_Unit_S_b,y_Unit_A_b,y_Unit_K_b,trivial⟩⟩
theorem lst2 {x:List Value} (h:x.length=2):∃ c0 c1,x=[c0,c1]:=by
  match x,h with
  | [c0,c1],_=>exact⟨c0,c1,rfl⟩
set_option maxRecDepth 100000 in
theorem el66 {H:Type} {enc:TypeId×Value→H} {W:World} (x:List Value) (hx:Tr enc Tryz.prog W 66 x):∃ y:Crv,x=crvE y∧crvQ W y:=by
  have hl:x.length=2:=(Tr.struct Tryz.underlying66 hx).1.trans (show Tryz.prog.cellsOf 66=2 by kernel_rfl)
  obtain ⟨c0,c1,rfl⟩:=lst2 hl
  have hf_y_0:Tr enc Tryz.prog W 26 [c0]:=(Tr.struct Tryz.underlying66 hx).2 0 _ rfl
  have hf_y_1:Tr enc Tryz.prog W 26 [c1]:=(Tr.struct Tryz.underlying66 hx).2 1 _ rfl
  obtain ⟨y_X_a,y_X_len,y_X_cap,hx_,y_X_hlen,y_X_l,y_X_q,y_X_h⟩:=Tr.ones (Value.int .i64) (fun n=>(-9223372036854775808)≤n∧n≤9223372036854775807) Tryz.underlying26 hf_y_0 (fun x hx=>by obtain ⟨n,h1,h2⟩:=Tr.int Tryz.underlying3 hx;exact⟨n,h1,ik h2⟩)
  obtain rfl:c0=_:=by simpa using hx_
  clear hx_
  have y_X_cp:=Tr.cap Tryz.underlying26 hf_y_0
  obtain ⟨y_Y_a,y_Y_len,y_Y_cap,hx_,y_Y_hlen,y_Y_l,y_Y_q,y_Y_h⟩:=Tr.ones (Value.int .i64) (fun n=>(-9223372036854775808)≤n∧n≤9223372036854775807) Tryz.underlying26 hf_y_1 (fun x hx=>by obtain ⟨n,h1,h2⟩:=Tr.int Tryz.underlying3 hx;exact⟨n,h1,ik h2⟩)
  obtain rfl:c1=_:=by simpa using hx_
  clear hx_
  have y_Y_cp:=Tr.cap Tryz.underlying26 hf_y_1
  exact⟨⟨y_X_a,y_X_len,y_X_cap,y_X_l,y_Y_a,y_Y_len,y_Y_cap,y_Y_l⟩,rfl,⟨y_X_cp,y_X_h,y_X_q,y_Y_cp,y_Y_h,y_Y_q,trivial⟩⟩
set_option maxRecDepth 100000 in
theorem el26 {H:Type} {enc:TypeId×Value→H} {W:World} (x:List Value) (hx:Tr enc Tryz.prog W 26 x):∃ y:Rw,x=rwE y∧rwQ W y:=by
  obtain ⟨c0,rfl⟩:∃ c0,x=[c0]:=by obtain ⟨a_,l_,k_,h_,_⟩:=Tr.slice Tryz.underlying26 hx;exact⟨_,h_⟩
  obtain ⟨y_a,y_len,y_cap,hx_,y_hlen,y_l,y_q,y_h⟩:=Tr.ones (Value.int .i64) (fun n=>(-9223372036854775808)≤n∧n≤9223372036854775807) Tryz.underlying26 hx (fun x hx=>by obtain ⟨n,h1,h2⟩:=Tr.int Tryz.underlying3 hx;exact⟨n,h1,ik h2⟩)
  obtain rfl:c0=_:=by simpa using hx_
  clear hx_
  have y_cp:=Tr.cap Tryz.underlying26 hx
  exact⟨⟨y_a,y_len,y_cap,y_l⟩,rfl,⟨y_cp,y_h,y_q,trivial⟩⟩
theorem lst3 {x:List Value} (h:x.length=3):∃ c0 c1 c2,x=[c0,c1,c2]:=by
  match x,h with
  | [c0,c1,c2],_=>exact⟨c0,c1,c2,rfl⟩
set_option maxRecDepth 100000 in
theorem el62 {H:Type} {enc:TypeId×Value→H} {W:World} (x:List Value) (hx:Tr enc Tryz.prog W 62 x):∃ y:Mp,x=mpE y∧mpQ W y:=by
  have hl:x.length=3:=(Tr.struct Tryz.underlying62 hx).1.trans (show Tryz.prog.cellsOf 62=3 by kernel_rfl)
  obtain ⟨c0,c1,c2,rfl⟩:=lst3 hl
  have hf_y_0:Tr enc Tryz.prog W 26 [c0]:=(Tr.struct Tryz.underlying62 hx).2 0 _ rfl
  have hf_y_1:Tr enc Tryz.prog W 26 [c1]:=(Tr.struct Tryz.underlying62 hx).2 1 _ rfl
  have hf_y_2:Tr enc Tryz.prog W 60 [c2]:=(Tr.struct Tryz.underlying62 hx).2 2 _ rfl
  obtain ⟨y_X_a,y_X_len,y_X_cap,hx_,y_X_hlen,y_X_l,y_X_q,y_X_h⟩:=Tr.ones (Value.int .i64) (fun n=>(-9223372036854775808)≤n∧n≤9223372036854775807) Tryz.underlying26 hf_y_0 (fun x hx=>by obtain ⟨n,h1,h2⟩:=Tr.int Tryz.underlying3 hx;exact⟨n,h1,ik h2⟩)
  obtain rfl:c0=_:=by simpa using hx_
  clear hx_
  have y_X_cp:=Tr.cap Tryz.underlying26 hf_y_0
  obtain ⟨y_Y_a,y_Y_len,y_Y_cap,hx_,y_Y_hlen,y_Y_l,y_Y_q,y_Y_h⟩:=Tr.ones (Value.int .i64) (fun n=>(-9223372036854775808)≤n∧n≤9223372036854775807) Tryz.underlying26 hf_y_1 (fun x hx=>by obtain ⟨n,h1,h2⟩:=Tr.int Tryz.underlying3 hx;exact⟨n,h1,ik h2⟩)
  obtain rfl:c1=_:=by simpa using hx_
  clear hx_
  have y_Y_cp:=Tr.cap Tryz.underlying26 hf_y_1
  obtain ⟨y_Z_a,y_Z_len,y_Z_cap,hx_,y_Z_hlen,y_Z_l,y_Z_ln,y_Z_q,y_Z_h⟩:=Tr.list (rwE) (rwQ W) Tryz.underlying60 hf_y_2 el26
  obtain rfl:c2=_:=by simpa using hx_
  clear hx_
  have y_Z_cp:=Tr.cap Tryz.underlying60 hf_y_2
  exact⟨⟨y_X_a,y_X_len,y_X_cap,y_X_l,y_Y_a,y_Y_len,y_Y_cap,y_Y_l,y_Z_a,y_Z_len,y_Z_cap,y_Z_l⟩,rfl,⟨y_X_cp,y_X_h,y_X_q,y_Y_cp,y_Y_h,y_Y_q,y_Z_cp,⟨y_Z_ln,fun _=>rfl,dE,y_Z_h⟩,y_Z_q,trivial⟩⟩
def laid:List (String×DataW Unit):=Rows.machineRunsRow.laid
theorem starE: "*" ++ "errors.errorString" = "*errors.errorString" :=by decide
theorem rowE (u:TypeId) (h:Tryz.prog.typeName? 3 u=some "*errors.errorString"):u=232 :=
  typeName_ptr_named (nm:= "errors.errorString") (by rw[starE];kernel_rfl) kr dE u (by rw[starE];exact h)
theorem errW0 {W:World} (h:laidMet Tryz.prog laid W):ErrW W 0:=by
  have h2:laidMet Tryz.prog (laid.drop 5) W:=h.tail.tail.tail.tail.tail
  rw[show laid.drop 5=("strconv.ErrSyntax",.iface "*errors.errorString" (.ptr (.agg [.lit (.string [105,110,118,97,108,105,100,32,115,121,110,116,97,120])])))::laid.drop 6 by kernel_rfl] at h2
  obtain ⟨a0,s0,hv0, -, -, -⟩:=laid_sentinel (g:=0) (ti:=114) (tp:=232) (te:=234) (ts:=9) h2 kr kr Tryz.underlying114 rowE Tryz.underlying232 Tryz.underlying234 rfl rfl Tryz.underlying9 kr kr
  exact⟨_,by have h0:=World.var?_cell (g:=0) kr hv0 0;simpa using h0,.inr ⟨_,_,rfl⟩⟩
theorem errW1 {W:World} (h:laidMet Tryz.prog laid W):ErrW W 1:=by
  have h2:laidMet Tryz.prog (laid.drop 4) W:=h.tail.tail.tail.tail
  rw[show laid.drop 4=("strconv.ErrRange",.iface "*errors.errorString" (.ptr (.agg [.lit (.string [118,97,108,117,101,32,111,117,116,32,111,102,32,114,97,110,103,101])])))::laid.drop 5 by kernel_rfl] at h2
  obtain ⟨a0,s0,hv0, -, -, -⟩:=laid_sentinel (g:=1) (ti:=114) (tp:=232) (te:=234) (ts:=9) h2 kr kr Tryz.underlying114 rowE Tryz.underlying232 Tryz.underlying234 rfl rfl Tryz.underlying9 kr kr
  exact⟨_,by have h0:=World.var?_cell (g:=1) kr hv0 0;simpa using h0,.inr ⟨_,_,rfl⟩⟩
theorem of_laid {W:World} (h0:laidMetH Tryz.prog laid W∧W.ShapedOpen Tryz.prog):TabW W:=by
  obtain ⟨h,hs⟩:=h0
  rw[MakeChecks.laidMetH_plain _ _ _ kr] at h
  have h2:laidMet Tryz.prog (laid.drop 2) W:=h.tail.tail
  rw[show laid.drop 2=("internal/strconv.uint64pow10",Lib.tabData .u64 Lib.pow10Tab)::laid.drop 3 by kernel_rfl] at h2
  have ht:=Lib.tabIs_of_head (g:=3) kr kr Tryz.underlying235 Tryz.underlying103 kr kr h2
  exact⟨ht,errW0 h,errW1 h,Go.Proofs.cell_of_shapedOpen_int (g:=2) (t:=3) (k:=.i64) (zero:=#[.int .i64 0]) hs dE kr rF kr kr Tryz.underlying3⟩

set_option maxRecDepth 100000 in
theorem lifted (os:Os) (started:os.Started) (H:Type) (enc:TypeId×Value→H) :
    ReturnsInHanded {} Tryz.checked os 3 .any (fun w args=>(Rows.machineRunsSpec.pre enc Tryz.prog Tryz.f3 [] false w args∧laidMetH Tryz.prog laid w)∧sizedMet enc Tryz.prog Tryz.f3 (OpenSpec.ofChange Rows.machineRunsSpec) false w args) (Rows.machineRunsSpec.post enc Tryz.prog Tryz.f3 false true false false):=by
  refine handed_shaped (C:=Tryz.checked) (X:=fun w _=>laidMetH Tryz.prog laid w) (fun _ _ _ hh h=>h.of_heap hh) own started kr Tryz.func3
    (ChangeSpec.witness_shaped (enc:=enc) (C:=Tryz.checked) (os:=os) (X:=fun w _=>laidMetH Tryz.prog laid w) false (World.laidAll Tryz.prog os laid) #[.agg #[.slice none 0 0,.slice none 0 0,.slice none 0 0,.slice none 0 0,.int .i64 0,.slice none 0 0,.slice none 0 0,.slice none 0 0,.slice none 0 0],.agg #[.int .i64 0,.int .i64 0,.int .i64 0,.int .i64 0,.int .i64 0,.int .i64 0,.int .i64 0,.int .i64 0,.int .i64 0,.int .i64 0,.int .i64 0,.int .i64 0,.int .i64 0,.int .i64 0,.int .i64 0,.int .i64 0,.slice none 0 0],.slice none 0 0] 8 (World.laidAll_os _ _ _) (World.shaped_of_ZipB kr kr) kr kr kr (by rw[MakeChecks.laidMetH_plain _ _ _ kr];exact laidMet_laidAll _ kr kr)) ?_
  intro W eJ args ds gs before hval0 hW hL0 hsh
  have hL:=And.intro hL0 hsh
  have hval:∀ (j:Nat) t v,Tryz.f3.params[j]? =some t→args[j]? =some v→Value.okWide Tryz.prog W .any eJ t v:=hval0
  have hW':=hW
  obtain ⟨p,q,hA0,hV,rfl,hfz,hnd⟩:=hW
  have hA:DataW.TrodAll enc Tryz.prog W 0 (fun _=>true) true Tryz.f3.params.toList args.toList ds p:=hA0
  rw[Tryz.params3] at hA hval
  obtain ⟨v0,vs0,d0,ds0,p0,q0,hargs,rfl,rfl,h0,r0⟩:=trodAll_cons hA
  obtain ⟨v1,vs1,d1,ds1,p1,q1,rfl,rfl,rfl,h1,r1⟩:=trodAll_cons r0
  obtain ⟨v2,vs2,d2,ds2,p2,q2,rfl,rfl,rfl,h2,r2⟩:=trodAll_cons r1
  obtain ⟨rfl,rfl,rfl⟩:=trodAll_nil r2
  obtain rfl:args=#[v0,v1,v2]:=by cases args;simp_all
  obtain ⟨rfl,rfl⟩:=trodVars_none hV
  have k0:=h0
  have lt0:∀ x ∈ p0,x.block<W.heap.size:=by obtain ⟨m,hm⟩:=k0;exact DataW.trod_lt m _ _ _ hm
  obtain ⟨cs0,rfl,hs0⟩:=okWide_struct Tryz.underlying28 (hval 0 28 v0 rfl rfl)
  obtain ⟨p_c0,p_c1,p_c2,p_c3,p_c4,p_c5,p_c6,p_c7,p_c8,rfl⟩:=arr9 (hs0.trans (show Tryz.prog.cellsOf 28=9 by kernel_rfl))
  have t0:Tr enc Tryz.prog W 28 [p_c0,p_c1,p_c2,p_c3,p_c4,p_c5,p_c6,p_c7,p_c8]:=Tr.of h0
  have hf_p_0:Tr enc Tryz.prog W 22 [p_c0]:=(Tr.struct Tryz.underlying28 t0).2 0 _ rfl
  have hf_p_1:Tr enc Tryz.prog W 23 [p_c1]:=(Tr.struct Tryz.underlying28 t0).2 1 _ rfl
  have hf_p_2:Tr enc Tryz.prog W 24 [p_c2]:=(Tr.struct Tryz.underlying28 t0).2 2 _ rfl
  have hf_p_3:Tr enc Tryz.prog W 25 [p_c3]:=(Tr.struct Tryz.underlying28 t0).2 3 _ rfl
  have hf_p_4:Tr enc Tryz.prog W 3 [p_c4]:=(Tr.struct Tryz.underlying28 t0).2 4 _ rfl
  have hf_p_5:Tr enc Tryz.prog W 26 [p_c5]:=(Tr.struct Tryz.underlying28 t0).2 5 _ rfl
  have hf_p_6:Tr enc Tryz.prog W 26 [p_c6]:=(Tr.struct Tryz.underlying28 t0).2 6 _ rfl
  have hf_p_7:Tr enc Tryz.prog W 26 [p_c7]:=(Tr.struct Tryz.underlying28 t0).2 7 _ rfl
  have hf_p_8:Tr enc Tryz.prog W 26 [p_c8]:=(Tr.struct Tryz.underlying28 t0).2 8 _ rfl
  obtain ⟨p_Code_a,p_Code_len,p_Code_cap,hx_,p_Code_hlen,p_Code_l,p_Code_ln,p_Code_q,p_Code_h⟩:=Tr.list (insE) (insQ W) Tryz.underlying22 hf_p_0 el48
  obtain rfl:p_c0=_:=by simpa using hx_
  clear hx_
  have p_Code_cp:=Tr.cap Tryz.underlying22 hf_p_0
  obtain ⟨p_Types_a,p_Types_len,p_Types_cap,hx_,p_Types_hlen,p_Types_l,p_Types_ln,p_Types_q,p_Types_h⟩:=Tr.list (fxdE) (cE W) Tryz.underlying23 hf_p_1 el75
  obtain rfl:p_c1=_:=by simpa using hx_
  clear hx_
  have p_Types_cp:=Tr.cap Tryz.underlying23 hf_p_1
  obtain ⟨p_Curves_a,p_Curves_len,p_Curves_cap,hx_,p_Curves_hlen,p_Curves_l,p_Curves_ln,p_Curves_q,p_Curves_h⟩:=Tr.list (crvE) (crvQ W) Tryz.underlying24 hf_p_2 el66
  obtain rfl:p_c2=_:=by simpa using hx_
  clear hx_
  have p_Curves_cp:=Tr.cap Tryz.underlying24 hf_p_2
  obtain ⟨p_Maps_a,p_Maps_len,p_Maps_cap,hx_,p_Maps_hlen,p_Maps_l,p_Maps_ln,p_Maps_q,p_Maps_h⟩:=Tr.list (mpE) (mpQ W) Tryz.underlying25 hf_p_3 el62
  obtain rfl:p_c3=_:=by simpa using hx_
  clear hx_
  have p_Maps_cp:=Tr.cap Tryz.underlying25 hf_p_3
  obtain ⟨p_Cells,hx_,p_Cells_b0⟩:=Tr.int Tryz.underlying3 hf_p_4
  obtain rfl:p_c4=_:=by simpa using hx_
  clear hx_
  have p_Cells_b:=ik p_Cells_b0
  clear p_Cells_b0
  obtain ⟨p_Inputs_a,p_Inputs_len,p_Inputs_cap,hx_,p_Inputs_hlen,p_Inputs_l,p_Inputs_q,p_Inputs_h⟩:=Tr.ones (Value.int .i64) (fun n=>(-9223372036854775808)≤n∧n≤9223372036854775807) Tryz.underlying26 hf_p_5 (fun x hx=>by obtain ⟨n,h1,h2⟩:=Tr.int Tryz.underlying3 hx;exact⟨n,h1,ik h2⟩)
  obtain rfl:p_c5=_:=by simpa using hx_
  clear hx_
  have p_Inputs_cp:=Tr.cap Tryz.underlying26 hf_p_5
  obtain ⟨p_States_a,p_States_len,p_States_cap,hx_,p_States_hlen,p_States_l,p_States_q,p_States_h⟩:=Tr.ones (Value.int .i64) (fun n=>(-9223372036854775808)≤n∧n≤9223372036854775807) Tryz.underlying26 hf_p_6 (fun x hx=>by obtain ⟨n,h1,h2⟩:=Tr.int Tryz.underlying3 hx;exact⟨n,h1,ik h2⟩)
  obtain rfl:p_c6=_:=by simpa using hx_
  clear hx_
  have p_States_cp:=Tr.cap Tryz.underlying26 hf_p_6
  obtain ⟨p_Outputs_a,p_Outputs_len,p_Outputs_cap,hx_,p_Outputs_hlen,p_Outputs_l,p_Outputs_q,p_Outputs_h⟩:=Tr.ones (Value.int .i64) (fun n=>(-9223372036854775808)≤n∧n≤9223372036854775807) Tryz.underlying26 hf_p_7 (fun x hx=>by obtain ⟨n,h1,h2⟩:=Tr.int Tryz.underlying3 hx;exact⟨n,h1,ik h2⟩)
  obtain rfl:p_c7=_:=by simpa using hx_
  clear hx_
  have p_Outputs_cp:=Tr.cap Tryz.underlying26 hf_p_7
  obtain ⟨p_Initial_a,p_Initial_len,p_Initial_cap,hx_,p_Initial_hlen,p_Initial_l,p_Initial_q,p_Initial_h⟩:=Tr.ones (Value.int .i64) (fun n=>(-9223372036854775808)≤n∧n≤9223372036854775807) Tryz.underlying26 hf_p_8 (fun x hx=>by obtain ⟨n,h1,h2⟩:=Tr.int Tryz.underlying3 hx;exact⟨n,h1,ik h2⟩)
  obtain rfl:p_c8=_:=by simpa using hx_
  clear hx_
  have p_Initial_cp:=Tr.cap Tryz.underlying26 hf_p_8
  have k1:=h1
  have lt1:∀ x ∈ p1,x.block<W.heap.size:=by obtain ⟨m,hm⟩:=k1;exact DataW.trod_lt m _ _ _ hm
  obtain ⟨cs1,rfl,hs1⟩:=okWide_struct Tryz.underlying31 (hval 1 31 v1 rfl rfl)
  obtain ⟨m_c0,m_c1,m_c2,m_c3,m_c4,m_c5,m_c6,m_c7,m_c8,m_c9,m_c10,m_c11,m_c12,m_c13,m_c14,m_c15,m_c16,rfl⟩:=arr17 (hs1.trans (show Tryz.prog.cellsOf 31=17 by kernel_rfl))
  have t1:Tr enc Tryz.prog W 31 [m_c0,m_c1,m_c2,m_c3,m_c4,m_c5,m_c6,m_c7,m_c8,m_c9,m_c10,m_c11,m_c12,m_c13,m_c14,m_c15,m_c16]:=Tr.of h1
  have hf_m_0:Tr enc Tryz.prog W 29 [m_c0,m_c1,m_c2,m_c3,m_c4,m_c5,m_c6,m_c7,m_c8,m_c9,m_c10,m_c11,m_c12,m_c13,m_c14,m_c15]:=(Tr.struct Tryz.underlying31 t1).2 0 _ rfl
  have hf_m_1:Tr enc Tryz.prog W 26 [m_c16]:=(Tr.struct Tryz.underlying31 t1).2 1 _ rfl
  have hf_m_Regs_0:Tr enc Tryz.prog W 3 [m_c0]:=(Tr.array Tryz.underlying29 hf_m_0).2 0 dE
  have hf_m_Regs_1:Tr enc Tryz.prog W 3 [m_c1]:=(Tr.array Tryz.underlying29 hf_m_0).2 1 dE
  have hf_m_Regs_2:Tr enc Tryz.prog W 3 [m_c2]:=(Tr.array Tryz.underlying29 hf_m_0).2 2 dE
  have hf_m_Regs_3:Tr enc Tryz.prog W 3 [m_c3]:=(Tr.array Tryz.underlying29 hf_m_0).2 3 dE
  have hf_m_Regs_4:Tr enc Tryz.prog W 3 [m_c4]:=(Tr.array Tryz.underlying29 hf_m_0).2 4 dE
  have hf_m_Regs_5:Tr enc Tryz.prog W 3 [m_c5]:=(Tr.array Tryz.underlying29 hf_m_0).2 5 dE
  have hf_m_Regs_6:Tr enc Tryz.prog W 3 [m_c6]:=(Tr.array Tryz.underlying29 hf_m_0).2 6 dE
  have hf_m_Regs_7:Tr enc Tryz.prog W 3 [m_c7]:=(Tr.array Tryz.underlying29 hf_m_0).2 7 dE
  have hf_m_Regs_8:Tr enc Tryz.prog W 3 [m_c8]:=(Tr.array Tryz.underlying29 hf_m_0).2 8 dE
  have hf_m_Regs_9:Tr enc Tryz.prog W 3 [m_c9]:=(Tr.array Tryz.underlying29 hf_m_0).2 9 dE
  have hf_m_Regs_10:Tr enc Tryz.prog W 3 [m_c10]:=(Tr.array Tryz.underlying29 hf_m_0).2 10 dE
  have hf_m_Regs_11:Tr enc Tryz.prog W 3 [m_c11]:=(Tr.array Tryz.underlying29 hf_m_0).2 11 dE
  have hf_m_Regs_12:Tr enc Tryz.prog W 3 [m_c12]:=(Tr.array Tryz.underlying29 hf_m_0).2 12 dE
  have hf_m_Regs_13:Tr enc Tryz.prog W 3 [m_c13]:=(Tr.array Tryz.underlying29 hf_m_0).2 13 dE
  have hf_m_Regs_14:Tr enc Tryz.prog W 3 [m_c14]:=(Tr.array Tryz.underlying29 hf_m_0).2 14 dE
  have hf_m_Regs_15:Tr enc Tryz.prog W 3 [m_c15]:=(Tr.array Tryz.underlying29 hf_m_0).2 15 dE
  obtain ⟨m_Regs_0,hx_,m_Regs_0_b0⟩:=Tr.int Tryz.underlying3 hf_m_Regs_0
  obtain rfl:m_c0=_:=by simpa using hx_
  clear hx_
  have m_Regs_0_b:=ik m_Regs_0_b0
  clear m_Regs_0_b0
  obtain ⟨m_Regs_1,hx_,m_Regs_1_b0⟩:=Tr.int Tryz.underlying3 hf_m_Regs_1
  obtain rfl:m_c1=_:=by simpa using hx_
  clear hx_
  have m_Regs_1_b:=ik m_Regs_1_b0
  clear m_Regs_1_b0
  obtain ⟨m_Regs_2,hx_,m_Regs_2_b0⟩:=Tr.int Tryz.underlying3 hf_m_Regs_2
  obtain rfl:m_c2=_:=by simpa using hx_
  clear hx_
  have m_Regs_2_b:=ik m_Regs_2_b0
  clear m_Regs_2_b0
  obtain ⟨m_Regs_3,hx_,m_Regs_3_b0⟩:=Tr.int Tryz.underlying3 hf_m_Regs_3
  obtain rfl:m_c3=_:=by simpa using hx_
  clear hx_
  have m_Regs_3_b:=ik m_Regs_3_b0
  clear m_Regs_3_b0
  obtain ⟨m_Regs_4,hx_,m_Regs_4_b0⟩:=Tr.int Tryz.underlying3 hf_m_Regs_4
  obtain rfl:m_c4=_:=by simpa using hx_
  clear hx_
  have m_Regs_4_b:=ik m_Regs_4_b0
  clear m_Regs_4_b0
  obtain ⟨m_Regs_5,hx_,m_Regs_5_b0⟩:=Tr.int Tryz.underlying3 hf_m_Regs_5
  obtain rfl:m_c5=_:=by simpa using hx_
  clear hx_
  have m_Regs_5_b:=ik m_Regs_5_b0
  clear m_Regs_5_b0
  obtain ⟨m_Regs_6,hx_,m_Regs_6_b0⟩:=Tr.int Tryz.underlying3 hf_m_Regs_6
  obtain rfl:m_c6=_:=by simpa using hx_
  clear hx_
  have m_Regs_6_b:=ik m_Regs_6_b0
  clear m_Regs_6_b0
  obtain ⟨m_Regs_7,hx_,m_Regs_7_b0⟩:=Tr.int Tryz.underlying3 hf_m_Regs_7
  obtain rfl:m_c7=_:=by simpa using hx_
  clear hx_
  have m_Regs_7_b:=ik m_Regs_7_b0
  clear m_Regs_7_b0
  obtain ⟨m_Regs_8,hx_,m_Regs_8_b0⟩:=Tr.int Tryz.underlying3 hf_m_Regs_8
  obtain rfl:m_c8=_:=by simpa using hx_
  clear hx_
  have m_Regs_8_b:=ik m_Regs_8_b0
  clear m_Regs_8_b0
  obtain ⟨m_Regs_9,hx_,m_Regs_9_b0⟩:=Tr.int Tryz.underlying3 hf_m_Regs_9
  obtain rfl:m_c9=_:=by simpa using hx_
  clear hx_
  have m_Regs_9_b:=ik m_Regs_9_b0
  clear m_Regs_9_b0
  obtain ⟨m_Regs_10,hx_,m_Regs_10_b0⟩:=Tr.int Tryz.underlying3 hf_m_Regs_10
  obtain rfl:m_c10=_:=by simpa using hx_
  clear hx_
  have m_Regs_10_b:=ik m_Regs_10_b0
  clear m_Regs_10_b0
  obtain ⟨m_Regs_11,hx_,m_Regs_11_b0⟩:=Tr.int Tryz.underlying3 hf_m_Regs_11
  obtain rfl:m_c11=_:=by simpa using hx_
  clear hx_
  have m_Regs_11_b:=ik m_Regs_11_b0
  clear m_Regs_11_b0
  obtain ⟨m_Regs_12,hx_,m_Regs_12_b0⟩:=Tr.int Tryz.underlying3 hf_m_Regs_12
  obtain rfl:m_c12=_:=by simpa using hx_
  clear hx_
  have m_Regs_12_b:=ik m_Regs_12_b0
  clear m_Regs_12_b0
  obtain ⟨m_Regs_13,hx_,m_Regs_13_b0⟩:=Tr.int Tryz.underlying3 hf_m_Regs_13
  obtain rfl:m_c13=_:=by simpa using hx_
  clear hx_
  have m_Regs_13_b:=ik m_Regs_13_b0
  clear m_Regs_13_b0
  obtain ⟨m_Regs_14,hx_,m_Regs_14_b0⟩:=Tr.int Tryz.underlying3 hf_m_Regs_14
  obtain rfl:m_c14=_:=by simpa using hx_
  clear hx_
  have m_Regs_14_b:=ik m_Regs_14_b0
  clear m_Regs_14_b0
  obtain ⟨m_Regs_15,hx_,m_Regs_15_b0⟩:=Tr.int Tryz.underlying3 hf_m_Regs_15
  obtain rfl:m_c15=_:=by simpa using hx_
  clear hx_
  have m_Regs_15_b:=ik m_Regs_15_b0
  clear m_Regs_15_b0
  obtain ⟨m_Cells_a,m_Cells_len,m_Cells_cap,hx_,m_Cells_hlen,m_Cells_l,m_Cells_q,m_Cells_h⟩:=Tr.ones (Value.int .i64) (fun n=>(-9223372036854775808)≤n∧n≤9223372036854775807) Tryz.underlying26 hf_m_1 (fun x hx=>by obtain ⟨n,h1,h2⟩:=Tr.int Tryz.underlying3 hx;exact⟨n,h1,ik h2⟩)
  obtain rfl:m_c16=_:=by simpa using hx_
  clear hx_
  have m_Cells_cp:=Tr.cap Tryz.underlying26 hf_m_1
  have k2:=h2
  have lt2:∀ x ∈ p2,x.block<W.heap.size:=by obtain ⟨m,hm⟩:=k2;exact DataW.trod_lt m _ _ _ hm
  have t2:=Tr.of h2
  rw[val_slice Tryz.underlying26 (hval 2 26 v2 rfl rfl)] at t2
  obtain ⟨xs_a,xs_len,xs_cap,hx_,xs_hlen,xs_l,xs_q,xs_h⟩:=Tr.ones (Value.int .i64) (fun n=>(-9223372036854775808)≤n∧n≤9223372036854775807) Tryz.underlying26 t2 (fun x hx=>by obtain ⟨n,h1,h2⟩:=Tr.int Tryz.underlying3 hx;exact⟨n,h1,ik h2⟩)
  obtain rfl:v2=_:=by simpa using hx_
  clear hx_
  have xs_cp:=Tr.cap Tryz.underlying26 t2
  clear hA0 hval0
  have hw:=lawruns_any (⟨p_Code_a,p_Code_len,p_Code_cap,p_Code_l,p_Types_a,p_Types_len,p_Types_cap,p_Types_l,p_Curves_a,p_Curves_len,p_Curves_cap,p_Curves_l,p_Maps_a,p_Maps_len,p_Maps_cap,p_Maps_l,p_Cells,p_Inputs_a,p_Inputs_len,p_Inputs_cap,p_Inputs_l,p_States_a,p_States_len,p_States_cap,p_States_l,p_Outputs_a,p_Outputs_len,p_Outputs_cap,p_Outputs_l,p_Initial_a,p_Initial_len,p_Initial_cap,p_Initial_l⟩:Prg) [m_Regs_0,m_Regs_1,m_Regs_2,m_Regs_3,m_Regs_4,m_Regs_5,m_Regs_6,m_Regs_7,m_Regs_8,m_Regs_9,m_Regs_10,m_Regs_11,m_Regs_12,m_Regs_13,m_Regs_14,m_Regs_15] m_Cells_a m_Cells_len m_Cells_cap m_Cells_l xs_a xs_len xs_cap xs_l W rfl ⟨p_Code_cp,⟨p_Code_ln,fun _=>rfl,dE,p_Code_h⟩,p_Code_q,p_Types_cp,⟨p_Types_ln,fun _=>rfl,dE,p_Types_h⟩,p_Types_q,p_Curves_cp,⟨p_Curves_ln,fun _=>rfl,dE,p_Curves_h⟩,p_Curves_q,p_Maps_cp,⟨p_Maps_ln,fun _=>rfl,dE,p_Maps_h⟩,p_Maps_q,p_Cells_b,p_Inputs_cp,p_Inputs_h,p_Inputs_q,p_States_cp,p_States_h,p_States_q,p_Outputs_cp,p_Outputs_h,p_Outputs_q,p_Initial_cp,p_Initial_h,p_Initial_q,trivial⟩ m_Cells_h xs_h (of_laid hL)
  refine Calls.mono hw fun e W' he=>?_
  obtain ⟨_,rfl,rfl,hS⟩:=he
  have bel:=hS.below
  exact⟨_,rfl,_,_,_,[],_,[],hW',trodAll_mk1 (shut_bool Tryz.underlying4 _),(trodAll_cons_mk (Below.trod laidOut kr (of_decide_eq_true kr) k0 bel lt0) (trodAll_cons_mk (Below.trod laidOut kr (of_decide_eq_true kr) k1 bel lt1) (trodAll_cons_mk (Below.trod laidOut kr (of_decide_eq_true kr) k2 bel lt2) trodAll_mk0))),rfl,bel.frame _,fun h=>by cases h⟩

theorem over:Rows.machineRunsRow.holds Tryz.pinned (OpenSpec.ofChange Rows.machineRunsSpec) :=
  OpenClaim.holds_of_wide 3 Tryz.f3 rfl rfl rfl rfl rfl rfl rfl ⟨rfl,rfl,rfl,rfl,rfl⟩ rfl rfl rfl rfl rfl kr Tryz.func3 kr
    (of_decide_eq_true kr) (by unfold Func.isWrapper;first | (rw[if_pos (by decide +kernel)];kernel_rfl) | (rw[if_neg (by decide +kernel)];exact⟨rfl,rfl⟩))
    (fun os started H enc _=>lifted os started H enc)

theorem proved:Rows.MachineRunsCardSaid :=
  Claim7.holds_tied_plain_at .later [] [.data,.data,.data,.data,.sentinel,.sentinel,.pinned] true (true, "760e714821c91dc110b74832b70f92a0658ddeca8d2356503c87352349a5be13") true over (fun _ h=>by cases h) kr (fun _ h=>by cases h) machineRuns_row_tie rfl ⟨rfl,rfl⟩ kr rfl
    (fun f fn hf hfn=>by
      obtain rfl:f=3:=Option.some.inj ((show Tryz.prog.funcNamed Rows.machineRunsRow.func=some 3 by kernel_rfl).symm.trans hf) |>.symm
      obtain rfl:fn=Tryz.f3:=(Option.some.inj (Tryz.func3.symm.trans hfn)).symm
      exact⟨kr,fun j t ht=>by
        rw[Tryz.params3] at ht
        have hm:t ∈ [28,31,26]:=by have:=Array.mem_of_getElem? ht;simpa [or_comm,or_left_comm] using this
        have hall:([28,31,26].all fun u=> !Tryz.prog.wantsStandIn u)=true:=by kernel_rfl
        exact(show Tryz.prog.wantsStandIn t=false by simpa using List.all_eq_true.1 hall t hm)⟩)
    kr
#print axioms proved
end Go.Proofs.YtaoolgcddapegaaGreatDoor.machineRuns

