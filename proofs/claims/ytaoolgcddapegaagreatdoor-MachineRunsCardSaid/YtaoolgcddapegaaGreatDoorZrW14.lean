/- Walks of functions of this seat, printed by a program over the engine. Conditions: as each theorem says. -/
import Derived.Test.YtaoolgcddapegaaGreatDoorZrV11
set_option linter.unusedSimpArgs false
set_option linter.unusedVariables false
namespace Go.Proofs.YtaoolgcddapegaaGreatDoor
noncomputable section
open Go.Eng Go.RowKit Go.Proofs.Tryz
set_option maxRecDepth 20000
set_option maxHeartbeats 20000000
theorem hb34:af prog 34:=fun _ _=>by kernel_rfl

theorem rtypes_any (k:Int) (w:World) (hk:0≤k∧k≤9223372036854775807):Ret prog 34 #[iv k] w (fun v w'=>v=.tuple #[iv (k/16384),iv (k/128%128),iv (k%128)]∧Sep w [] w'):=by
 refine Ret.st (N:=12) func34 fun R hR S0=>J.h 10 [] [] [] 6 (iv (IntKind.wrap .i64 (Int.tdiv k 16384))) (iv (k/16384)) (congrArg (Value.int .i64) (IntWalk.i64_quo _ _ om))<|J.h 2 [] [] [] 8 (iv (IntKind.wrap .i64 (Int.tdiv k 128))) (iv (k/128)) (congrArg (Value.int .i64) (IntWalk.i64_quo _ _ om))<|J.h 1 [] [] [] 9 (iv (Int.tmod (k/128) 128)) (iv ((k/128)%128)) (congrArg (Value.int .i64) (IntWalk.rem_in _ _ om))<|J.h 2 [] [] [] 11 (iv (Int.tmod k 128)) (iv (k%128)) (congrArg (Value.int .i64) (IntWalk.rem_in _ _ om))<|J.e 4 [iv (k/16384),iv ((k/128)%128),iv (k%128)] func34 (hR _ _ ?_)
 exact⟨rfl,S0.nil⟩

theorem hb47:af prog 47:=fun _ _=>by kernel_rfl
def K47_0:=List.drop 1 (adv 16 [] (bo Tryz.f47))
def K47_1:=List.drop 1 (adv 7 [false] K47_0)
def K47_2:=List.drop 1 (adv 7 [false] K47_1)
def K47_3:=List.drop 1 (adv 7 [false] K47_2)
theorem rfields_any (op:Int) (w:World) (hop:1≤op∧op≤22):Ret prog 47 #[iv op] w (fun v w'=>v=.string (aW op)∧Sep w [] w'):=by
 refine Ret.st (N:=25) func47 fun R hR S0=>?_
 have X1:∀ (tj4:Bool) (w1:World),((tj4=true→(op=1∨op=2∨op=3))∧(tj4=false→¬ (op=1∨op=2∨op=3)))→Sep w [] w1→J prog 47 25 R K47_0 [(3,iv op),(4,.bool tj4)] w1:=by
  intro tj4 w1 htj4 S1
  refine J.b 0 [] [] [] 4 tj4 (fun fk1=>?_) fun fk1=>?_
  have fb1:=htj4.1 fk1
  refine J.e 5 [.string ⟨#[65,75]⟩] func47 (hR _ _ ?_)
  exact⟨congrArg Value.string (by unfold aW;(repeat first | rw[if_pos om] | rw[if_neg om])<;>rfl),S1.nil⟩
  have fb2:=htj4.2 fk1
  have X2:∀ (tj8:Bool) (w2:World),((tj8=true→(op=4∨op=18))∧(tj8=false→¬ (op=4∨op=18)))→Sep w [] w2→J prog 47 25 R K47_1 [(3,iv op),(8,.bool tj8)] w2:=by
   intro tj8 w2 htj8 S2
   refine J.b 0 [] [] [] 8 tj8 (fun fk2=>?_) fun fk2=>?_
   have fb3:=htj8.1 fk2
   refine J.e 5 [.string ⟨#[65,66]⟩] func47 (hR _ _ ?_)
   exact⟨congrArg Value.string (by unfold aW;(repeat first | rw[if_pos om] | rw[if_neg om])<;>rfl),S2.nil⟩
   have fb4:=htj8.2 fk2
   have X3:∀ (tj11:Bool) (w3:World),((tj11=true→(op=5∨op=6∨op=7∨op=8∨op=13∨op=14∨op=19∨op=21))∧(tj11=false→¬ (op=5∨op=6∨op=7∨op=8∨op=13∨op=14∨op=19∨op=21)))→Sep w [] w3→J prog 47 25 R K47_2 [(3,iv op),(11,.bool tj11)] w3:=by
    intro tj11 w3 htj11 S3
    refine J.b 0 [] [] [] 11 tj11 (fun fk3=>?_) fun fk3=>?_
    have fb5:=htj11.1 fk3
    refine J.e 5 [.string ⟨#[65,66,67,75]⟩] func47 (hR _ _ ?_)
    exact⟨congrArg Value.string (by unfold aW;(repeat first | rw[if_pos om] | rw[if_neg om])<;>rfl),S3.nil⟩
    have fb6:=htj11.2 fk3
    have X4:∀ (tj20:Bool) (w4:World),((tj20=true→(op=9∨op=10∨op=20∨op=22))∧(tj20=false→¬ (op=9∨op=10∨op=20∨op=22)))→Sep w [] w4→J prog 47 25 R K47_3 [(20,.bool tj20)] w4:=by
     intro tj20 w4 htj20 S4
     refine J.b 0 [] [] [] 20 tj20 (fun fk4=>?_) fun fk4=>?_
     have fb7:=htj20.1 fk4
     refine J.e 5 [.string ⟨#[65,66,75]⟩] func47 (hR _ _ ?_)
     exact⟨congrArg Value.string (by unfold aW;(repeat first | rw[if_pos om] | rw[if_neg om])<;>rfl),S4.nil⟩
     have fb8:=htj20.2 fk4
     refine J.e 7 [.string ⟨#[65,66,67]⟩] func47 (hR _ _ ?_)
     exact⟨congrArg Value.string (by unfold aW;(repeat first | rw[if_pos om] | rw[if_neg om])<;>rfl),S4.nil⟩
    refine J.c 7 [false] [] [] 20 (op=9) (fun fk5=>?_) fun fk5=>?_
    exact J.t 2 (X4 true w3 (⟨fun h_=>by first | (cases h_;done) | (have h2_:=of_decide_eq_true h_;omega) | (have h2_:=beq_iff_eq.1 h_;omega) | omega,fun h_=>by first | (cases h_;done) | (have h2_:=of_decide_eq_false h_;omega) | (have h2_:=beq_eq_false_iff_ne.1 h_;omega) | omega⟩) S3)
    refine J.c 6 [false] [] [20] 20 (op=10) (fun fk6=>?_) fun fk6=>?_
    exact J.t 2 (X4 true w3 (⟨fun h_=>by first | (cases h_;done) | (have h2_:=of_decide_eq_true h_;omega) | (have h2_:=beq_iff_eq.1 h_;omega) | omega,fun h_=>by first | (cases h_;done) | (have h2_:=of_decide_eq_false h_;omega) | (have h2_:=beq_eq_false_iff_ne.1 h_;omega) | omega⟩) S3)
    refine J.c 6 [false] [] [20] 20 (op=20) (fun fk7=>?_) fun fk7=>?_
    exact J.t 2 (X4 true w3 (⟨fun h_=>by first | (cases h_;done) | (have h2_:=of_decide_eq_true h_;omega) | (have h2_:=beq_iff_eq.1 h_;omega) | omega,fun h_=>by first | (cases h_;done) | (have h2_:=of_decide_eq_false h_;omega) | (have h2_:=beq_eq_false_iff_ne.1 h_;omega) | omega⟩) S3)
    exact J.t 5 (X4 (op==22) w3 (⟨fun h_=>by first | (cases h_;done) | (have h2_:=of_decide_eq_true h_;omega) | (have h2_:=beq_iff_eq.1 h_;omega) | omega,fun h_=>by first | (cases h_;done) | (have h2_:=of_decide_eq_false h_;omega) | (have h2_:=beq_eq_false_iff_ne.1 h_;omega) | omega⟩) S3)
   refine J.c 7 [false] [] [] 11 (op=5) (fun fk8=>?_) fun fk8=>?_
   exact J.t 2 (X3 true w2 (⟨fun h_=>by first | (cases h_;done) | (have h2_:=of_decide_eq_true h_;omega) | (have h2_:=beq_iff_eq.1 h_;omega) | omega,fun h_=>by first | (cases h_;done) | (have h2_:=of_decide_eq_false h_;omega) | (have h2_:=beq_eq_false_iff_ne.1 h_;omega) | omega⟩) S2)
   refine J.c 6 [false] [] [11] 11 (op=6) (fun fk9=>?_) fun fk9=>?_
   exact J.t 2 (X3 true w2 (⟨fun h_=>by first | (cases h_;done) | (have h2_:=of_decide_eq_true h_;omega) | (have h2_:=beq_iff_eq.1 h_;omega) | omega,fun h_=>by first | (cases h_;done) | (have h2_:=of_decide_eq_false h_;omega) | (have h2_:=beq_eq_false_iff_ne.1 h_;omega) | omega⟩) S2)
   refine J.c 6 [false] [] [11] 11 (op=7) (fun fk10=>?_) fun fk10=>?_
   exact J.t 2 (X3 true w2 (⟨fun h_=>by first | (cases h_;done) | (have h2_:=of_decide_eq_true h_;omega) | (have h2_:=beq_iff_eq.1 h_;omega) | omega,fun h_=>by first | (cases h_;done) | (have h2_:=of_decide_eq_false h_;omega) | (have h2_:=beq_eq_false_iff_ne.1 h_;omega) | omega⟩) S2)
   refine J.c 6 [false] [] [11] 11 (op=8) (fun fk11=>?_) fun fk11=>?_
   exact J.t 2 (X3 true w2 (⟨fun h_=>by first | (cases h_;done) | (have h2_:=of_decide_eq_true h_;omega) | (have h2_:=beq_iff_eq.1 h_;omega) | omega,fun h_=>by first | (cases h_;done) | (have h2_:=of_decide_eq_false h_;omega) | (have h2_:=beq_eq_false_iff_ne.1 h_;omega) | omega⟩) S2)
   refine J.c 6 [false] [] [11] 11 (op=13) (fun fk12=>?_) fun fk12=>?_
   exact J.t 2 (X3 true w2 (⟨fun h_=>by first | (cases h_;done) | (have h2_:=of_decide_eq_true h_;omega) | (have h2_:=beq_iff_eq.1 h_;omega) | omega,fun h_=>by first | (cases h_;done) | (have h2_:=of_decide_eq_false h_;omega) | (have h2_:=beq_eq_false_iff_ne.1 h_;omega) | omega⟩) S2)
   refine J.c 6 [false] [] [11] 11 (op=14) (fun fk13=>?_) fun fk13=>?_
   exact J.t 2 (X3 true w2 (⟨fun h_=>by first | (cases h_;done) | (have h2_:=of_decide_eq_true h_;omega) | (have h2_:=beq_iff_eq.1 h_;omega) | omega,fun h_=>by first | (cases h_;done) | (have h2_:=of_decide_eq_false h_;omega) | (have h2_:=beq_eq_false_iff_ne.1 h_;omega) | omega⟩) S2)
   refine J.c 6 [false] [] [11] 11 (op=19) (fun fk14=>?_) fun fk14=>?_
   exact J.t 2 (X3 true w2 (⟨fun h_=>by first | (cases h_;done) | (have h2_:=of_decide_eq_true h_;omega) | (have h2_:=beq_iff_eq.1 h_;omega) | omega,fun h_=>by first | (cases h_;done) | (have h2_:=of_decide_eq_false h_;omega) | (have h2_:=beq_eq_false_iff_ne.1 h_;omega) | omega⟩) S2)
   exact J.t 5 (X3 (op==21) w2 (⟨fun h_=>by first | (cases h_;done) | (have h2_:=of_decide_eq_true h_;omega) | (have h2_:=beq_iff_eq.1 h_;omega) | omega,fun h_=>by first | (cases h_;done) | (have h2_:=of_decide_eq_false h_;omega) | (have h2_:=beq_eq_false_iff_ne.1 h_;omega) | omega⟩) S2)
  refine J.c 7 [false] [] [] 8 (op=4) (fun fk15=>?_) fun fk15=>?_
  exact J.t 2 (X2 true w1 (⟨fun h_=>by first | (cases h_;done) | (have h2_:=of_decide_eq_true h_;omega) | (have h2_:=beq_iff_eq.1 h_;omega) | omega,fun h_=>by first | (cases h_;done) | (have h2_:=of_decide_eq_false h_;omega) | (have h2_:=beq_eq_false_iff_ne.1 h_;omega) | omega⟩) S1)
  exact J.t 5 (X2 (op==18) w1 (⟨fun h_=>by first | (cases h_;done) | (have h2_:=of_decide_eq_true h_;omega) | (have h2_:=beq_iff_eq.1 h_;omega) | omega,fun h_=>by first | (cases h_;done) | (have h2_:=of_decide_eq_false h_;omega) | (have h2_:=beq_eq_false_iff_ne.1 h_;omega) | omega⟩) S1)
 refine J.c 16 [] [(3,iv op)] [] 4 (op=1) (fun fk16=>?_) fun fk16=>?_
 exact J.t 2 (X1 true w (⟨fun h_=>by first | (cases h_;done) | (have h2_:=of_decide_eq_true h_;omega) | (have h2_:=beq_iff_eq.1 h_;omega) | omega,fun h_=>by first | (cases h_;done) | (have h2_:=of_decide_eq_false h_;omega) | (have h2_:=beq_eq_false_iff_ne.1 h_;omega) | omega⟩) S0)
 refine J.c 6 [false] [] [4] 4 (op=2) (fun fk17=>?_) fun fk17=>?_
 exact J.t 2 (X1 true w (⟨fun h_=>by first | (cases h_;done) | (have h2_:=of_decide_eq_true h_;omega) | (have h2_:=beq_iff_eq.1 h_;omega) | omega,fun h_=>by first | (cases h_;done) | (have h2_:=of_decide_eq_false h_;omega) | (have h2_:=beq_eq_false_iff_ne.1 h_;omega) | omega⟩) S0)
 exact J.t 5 (X1 (op==3) w (⟨fun h_=>by first | (cases h_;done) | (have h2_:=of_decide_eq_true h_;omega) | (have h2_:=beq_iff_eq.1 h_;omega) | omega,fun h_=>by first | (cases h_;done) | (have h2_:=of_decide_eq_false h_;omega) | (have h2_:=beq_eq_false_iff_ne.1 h_;omega) | omega⟩) S0)
 /-! layer 13:bytes and texts of instructions -/
def setI (i:Ins) (c n:Int):Ins:=if c=65 then { i with gA:=n } else if c=66 then { i with gB:=n } else if c=67 then { i with gC:=n } else { i with gK:=n }
def eG (c:UInt8) (n:Int):List UInt8:=(if c=75 then [] else [114])++Lib.itoa n
def partL (i:Ins) (c:UInt8):List UInt8:=32::eG c (ek i (c.toNat:Int))
def textLs (i:Ins):List UInt8:=ls (nameL.getD i.gOp.toNat ByteArray.empty)++(ls (aW i.gOp)).flatMap (partL i)
def textI (i:Ins):ByteArray:=if dh i then ⟨(textLs i).toArray⟩ else ByteArray.empty
abbrev bq:Ins:=⟨0,0,0,0,0⟩
def atM (l:List UInt8):Option Int:=match Lib.atoiAll l with | .ok n=>some n | _=>none
def trimR (w:List UInt8):List UInt8:=if w.head? =some 114 then w.tail else w
def matW (c:UInt8) (w:List UInt8):Option Int:=atM (if c=75 then w else trimR w)
def dW (c:UInt8) (w:List UInt8):List UInt8:=if c=75 then w else w.tail
def refW (c:UInt8) (w:List UInt8):Option Int :=
  if (c=75∨(2≤w.length∧w.head? =some 114))∧(dW c w).length≤24∧formL (dW c w)=true∧fitL (valL (dW c w))=true then some (valL (dW c w)) else none
def goW (f:UInt8→List UInt8→Option Int):List UInt8→List (List UInt8)→Ins→Option Ins
  | [],_,i=>some i
  | c::cs,ws,i=>match f c (ws.headD []) with
    | none=>none
    | some n=>goW f cs ws.tail (setI i (c.toNat:Int) n)
def opN (w:List UInt8):Nat→Int
  | 0=>0
  | k+1=>if k≠0∧ls (nameL.getD k ByteArray.empty)=w then (k:Int) else opN w k
abbrev opW (w:List UInt8):Int:=opN w 23
def ef (f:UInt8→List UInt8→Option Int) (s:List UInt8):Option Ins :=
  if opW ((aQ 32 s).headD [])<1∨(aQ 32 s).length≠1+(aW (opW ((aQ 32 s).headD []))).size then none else goW f (ls (aW (opW ((aQ 32 s).headD [])))) (aQ 32 s).tail ⟨opW ((aQ 32 s).headD []),0,0,0,0⟩
def dK (s:ByteArray):Ins:=if 100<s.size then bq else match (ef refW (ls s)).filter dh with | some i=>i | none=>bq
def parIE (s:ByteArray):Int:=if 100<s.size then 5 else match (ef refW (ls s)).filter dh with | some _=>0 | none=>3
theorem opN_name (w:List UInt8):∀ k,opN w k=0∨ls (nameL.getD (opN w k).toNat ByteArray.empty)=w
  | 0=>.inl rfl
  | k+1=>by
    unfold opN;split
    · rename_i h;right;rw[Int.toNat_natCast];exact h.2
    · exact opN_name w k
theorem opW_name {op:Int} (h:1≤op∧op≤22):opW (ls (nameL.getD op.toNat ByteArray.empty))=op:=by
  rcases dC h with rfl|rfl|rfl|rfl|rfl|rfl|rfl|rfl|rfl|rfl|rfl|rfl|rfl|rfl|rfl|rfl|rfl|rfl|rfl|rfl|rfl|rfl<;>decide +kernel
theorem opN_zero {w:List UInt8}:∀ {k},(∀ j,j<k→j≠0→ls (nameL.getD j ByteArray.empty)≠w)→opN w k=0
  | 0,_=>rfl
  | k+1,h=>by
    unfold opN;rw[if_neg (fun hk=>h k om hk.1 hk.2)];exact opN_zero fun j hj=>h j om
theorem split_join (c:UInt8):∀ l:List UInt8,((aQ c l).headD []++(aQ c l).tail.flatMap fun w=>c::w)=l
  | []=>rfl
  | x::l=>by
    have ih:=split_join c l
    rw[aQ]
    split
    · rename_i h
      cases hs:aQ c l with
      | nil=>exact absurd hs (eV c l)
      | cons p ps =>
        rw[hs] at ih
        simp only[List.headD_cons,List.tail_cons] at ih
        simp only[List.headD_cons,List.tail_cons,List.flatMap_cons,List.nil_append,List.cons_append]
        rw[ih,h]
    · cases hs:aQ c l with
      | nil=>exact absurd hs (eV c l)
      | cons p ps =>
        rw[hs] at ih
        simp only[List.headD_cons,List.tail_cons] at ih
        simp only[List.headD_cons,List.tail_cons,List.cons_append]
        rw[ih]
theorem split_cat {c:UInt8} {a:List UInt8} (ha:c ∉ a):∀ ws:List (List UInt8),(∀ w ∈ ws,c ∉ w)→aQ c (a++ws.flatMap fun w=>c::w)=a::ws:=by
  intro ws
  induction ws generalizing a with
  | nil=>intro _;rw[List.flatMap_nil,List.append_nil,splitOn_miss ha]
  | cons w ws ih =>
    intro h
    rw[List.flatMap_cons,List.cons_append,splitOn_hit ha,ih (h w (by simp)) fun x hx=>h x (List.mem_cons_of_mem _ hx)]
theorem trim_ref {w:List UInt8} (h:2≤w.length∧w.head? =some 114):trimR w=w.tail:=by unfold trimR;rw[if_pos h.2]
theorem head_tail {w:List UInt8} (h:w.head? =some 114):w=114::w.tail:=by
  cases w with
  | nil=>cases h
  | cons x r=>rw[List.head?_cons] at h;rw[Option.some.inj h];rfl
theorem atM_form {l:List UInt8} (h:formL l=true) (hf:fitL (valL l)=true):atM l=some (valL l):=by
  unfold atM;rw[atoi_form h,if_pos hf]
theorem ref_mat {c:UInt8} {w:List UInt8} {n:Int} (h:refW c w=some n):matW c w=some n∧w=eG c n:=by
  unfold refW at h
  split at h
  · rename_i hc
    obtain ⟨h1,_,h3,h4⟩:=hc
    have e:=Option.some.inj h
    unfold dW at h3 h4 e
    by_cases c75:c=75
    · rw[if_pos c75] at h3 h4 e
      unfold matW eG
      rw[if_pos c75,if_pos c75,atM_form h3 h4,e]
      exact⟨rfl,by rw[← e,itoa_form h3];rfl⟩
    · rw[if_neg c75] at h3 h4 e
      have h2:=h1.resolve_left c75
      unfold matW eG
      rw[if_neg c75,if_neg c75,trim_ref h2,atM_form h3 h4,e]
      exact⟨rfl,by rw[← e,itoa_form h3];exact head_tail h2.2⟩
  · cases h
theorem itoa_len {n:Int} (h: -9223372036854775808≤n∧n≤9223372036854775807):(Lib.itoa n).length≤20:=by
  have:=itoaB_size h;rw[← cm] at this;exact this
theorem itoa_ne (n:Int):Lib.itoa n≠[]:=by
  intro h
  have:=(form_itoa n).1
  rw[h] at this;exact absurd this dE
theorem ref_word (c:UInt8) {n:Int} (h: -9223372036854775808≤n∧n≤9223372036854775807):refW c (eG c n)=some n:=by
  obtain ⟨f1,f2⟩:=form_itoa n
  have hl:=itoa_len h
  have hne:=itoa_ne n
  have hp:0<(Lib.itoa n).length:=List.length_pos_iff.2 hne
  have hfit:fitL (valL (Lib.itoa n))=true:=by rw[f2];simp only[fitL,Bool.and_eq_true,decide_eq_true_eq];exact h
  by_cases c75:c=75
  · have ew:eG c n=Lib.itoa n:=by unfold eG;rw[if_pos c75];rfl
    have ed:dW c (Lib.itoa n)=Lib.itoa n:=by unfold dW;rw[if_pos c75]
    unfold refW
    rw[ew,ed,if_pos ⟨.inl c75,om,f1,hfit⟩,f2]
  · have ew:eG c n=114::Lib.itoa n:=by unfold eG;rw[if_neg c75];rfl
    have ed:dW c (114::Lib.itoa n)=Lib.itoa n:=by unfold dW;rw[if_neg c75];rfl
    unfold refW
    rw[ew,ed,if_pos ⟨.inr ⟨by rw[List.length_cons];omega,rfl⟩,om,f1,hfit⟩,f2]
theorem goW_ref:∀ {cs:List UInt8} {ws:List (List UInt8)} {i j:Ins},goW refW cs ws i=some j→goW matW cs ws i=some j
  | [],_,_,_,h=>h
  | c::cs,ws,i,j,h=>by
    unfold goW at h ⊢
    cases hw:refW c (ws.headD []) with
    | none=>rw[hw] at h;cases h
    | some n=>rw[hw] at h;rw[(ref_mat hw).1];exact goW_ref h
theorem goW_op {f:UInt8→List UInt8→Option Int}:∀ {cs:List UInt8} {ws:List (List UInt8)} {i j:Ins},goW f cs ws i=some j→j.gOp=i.gOp
  | [],_,_,_,h=>by rw[← Option.some.inj h]
  | c::cs,ws,i,j,h=>by
    unfold goW at h
    cases hw:f c (ws.headD []) with
    | none=>rw[hw] at h;cases h
    | some n =>
      rw[hw] at h
      rw[goW_op h];unfold setI;repeat' split
      all_goals rfl
theorem goW_words:∀ {cs:List UInt8} {ws:List (List UInt8)} {i j:Ins},(∀ c ∈ cs,c=65∨c=66∨c=67∨c=75)→cs.Nodup→ws.length=cs.length→goW refW cs ws i=some j →
    (ws=cs.map fun c=>eG c (ek j (c.toNat:Int)))∧∀ c:UInt8,(c=65∨c=66∨c=67∨c=75)→c ∉ cs→ek j (c.toNat:Int)=ek i (c.toNat:Int)
  | [],ws,i,j,_,_,hl,h=>by
    have e:=Option.some.inj h
    exact⟨by rw[List.eq_nil_of_length_eq_zero hl];rfl,fun c _ _=>by rw[← e]⟩
  | c::cs,[],i,j,_,_,hl,h=>by cases hl
  | c::cs,w::ws,i,j,hc,hn,hl,h=>by
    unfold goW at h
    rw[List.headD_cons,List.tail_cons] at h
    cases hw:refW c w with
    | none=>rw[hw] at h;cases h
    | some n =>
      rw[hw] at h
      obtain ⟨h1,h2⟩:=goW_words (fun x hx=>hc x (List.mem_cons_of_mem _ hx)) (List.nodup_cons.1 hn).2 (by simpa using hl) h
      have hset:ek (setI i (c.toNat:Int) n) (c.toNat:Int)=n:=by
        rcases hc c (by simp) with rfl|rfl|rfl|rfl<;>rfl
      have hcc:=(h2 c (hc c (by simp)) (List.nodup_cons.1 hn).1).trans hset
      refine⟨by rw[List.map_cons,hcc,← h1,← (ref_mat hw).2],fun x hx hxn=>?_⟩
      rw[h2 x hx fun hm=>hxn (List.mem_cons_of_mem _ hm)]
      have hne:x≠c:=fun e=>hxn (by rw[e];simp)
      rcases hx with rfl|rfl|rfl|rfl<;>rcases hc c (by simp) with rfl|rfl|rfl|rfl<;>first | rfl | exact absurd rfl hne
theorem fields_shape (op:Int):ls (aW op)=[65,75]∨ls (aW op)=[65,66]∨ls (aW op)=[65,66,75]∨ls (aW op)=[65,66,67]∨ls (aW op)=[65,66,67,75]:=by
  unfold aW;repeat' split
  · left;rfl
  · right;left;rfl
  · right;right;left;rfl
  · right;right;right;left;rfl
  · right;right;right;right;rfl
theorem fields_ok (op:Int):(∀ c ∈ ls (aW op),c=65∨c=66∨c=67∨c=75)∧(ls (aW op)).Nodup:=by
  rcases fields_shape op with h | h | h | h | h<;>rw[h]<;>exact⟨dE,dE⟩
theorem readI_some {f:UInt8→List UInt8→Option Int} {l:List UInt8} {j:Ins} (h:ef f l=some j):1≤opW ((aQ 32 l).headD [])∧(aQ 32 l).length=1+(aW (opW ((aQ 32 l).headD []))).size∧goW f (ls (aW (opW ((aQ 32 l).headD [])))) (aQ 32 l).tail ⟨opW ((aQ 32 l).headD []),0,0,0,0⟩=some j:=by
  unfold ef at h
  split at h
  · cases h
  · rename_i hc;exact⟨om,om,h⟩
theorem readI_yes {f:UInt8→List UInt8→Option Int} {l:List UInt8} (h1:1≤opW ((aQ 32 l).headD [])) (h2:(aQ 32 l).length=1+(aW (opW ((aQ 32 l).headD []))).size):ef f l=goW f (ls (aW (opW ((aQ 32 l).headD [])))) (aQ 32 l).tail ⟨opW ((aQ 32 l).headD []),0,0,0,0⟩:=by
  unfold ef;rw[if_neg om]
theorem read_ref {l:List UInt8} {j:Ins} (h:ef refW l=some j):ef matW l=some j∧textLs j=l:=by
  obtain ⟨h1,h2,h3⟩:=readI_some h
  refine⟨(readI_yes h1 h2).trans (goW_ref h3),?_⟩
  have hop:j.gOp=opW ((aQ 32 l).headD []):=goW_op h3
  obtain ⟨hw,_⟩:=goW_words (fields_ok _).1 (fields_ok _).2 (by rw[List.length_tail,h2,cm];omega) h3
  have hn:=(opN_name ((aQ 32 l).headD []) 23).resolve_left (show ¬ opN _ 23=0 by show ¬ opW _=0;omega)
  have hj:=split_join 32 l
  unfold textLs
  rw[hop,show nameL.getD (opW ((aQ 32 l).headD [])).toNat ByteArray.empty=nameL.getD (opN ((aQ 32 l).headD []) 23).toNat ByteArray.empty from rfl,hn]
  conv=>rhs;rw[← hj]
  congr 1
  conv=>rhs;rw[hw]
  rw[List.flatMap_map];rfl
theorem itoa_blank (n:Int):32 ∉ Lib.itoa n:=by
  obtain ⟨f1,_⟩:=form_itoa n
  have hc:=eE (form_canon f1)
  have hd:32 ∉ digL (Lib.itoa n):=fun h=>by
    have:=hc.2.1 32 h
    exact absurd this dE
  intro h
  cases hn:negL (Lib.itoa n) with
  | true =>
    rw[digL_neg hn] at h
    rcases List.mem_cons.1 h with h | h
    · exact absurd h dE
    · exact hd h
  | false=>rw[digL_pos hn] at hd;exact hd h
theorem word_blank (c:UInt8) (n:Int):32 ∉ eG c n:=by
  unfold eG
  intro h
  rcases List.mem_append.1 h with h | h
  · split at h
    · cases h
    · exact absurd (List.mem_singleton.1 h) dE
  · exact itoa_blank n h
theorem name_blank {op:Int} (h:1≤op∧op≤22):32 ∉ ls (nameL.getD op.toNat ByteArray.empty):=by
  rcases dC h with rfl|rfl|rfl|rfl|rfl|rfl|rfl|rfl|rfl|rfl|rfl|rfl|rfl|rfl|rfl|rfl|rfl|rfl|rfl|rfl|rfl|rfl<;>decide +kernel
theorem split_text {j:Ins} (h:1≤j.gOp∧j.gOp≤22):aQ 32 (textLs j)=ls (nameL.getD j.gOp.toNat ByteArray.empty)::(ls (aW j.gOp)).map fun c=>eG c (ek j (c.toNat:Int)):=by
  have e:textLs j=ls (nameL.getD j.gOp.toNat ByteArray.empty)++((ls (aW j.gOp)).map fun c=>eG c (ek j (c.toNat:Int))).flatMap fun w=>32::w:=by
    unfold textLs;rw[List.flatMap_map];rfl
  rw[e]
  exact split_cat (name_blank h) _ fun w hw=>by
    obtain ⟨c,_,rfl⟩:=List.mem_map.1 hw
    exact word_blank c _
theorem goW_own {j:Ins} (h:dh j=true):goW refW (ls (aW j.gOp)) ((ls (aW j.gOp)).map fun c=>eG c (ek j (c.toNat:Int))) ⟨j.gOp,0,0,0,0⟩=some j:=by
  have hp:=dO.1 h
  have ha:refW 65 (eG 65 j.gA)=some j.gA:=ref_word 65 om
  have hb:refW 66 (eG 66 j.gB)=some j.gB:=ref_word 66 om
  have hc:refW 67 (eG 67 j.gC)=some j.gC:=ref_word 67 om
  have hk:refW 75 (eG 75 j.gK)=some j.gK:=ref_word 75 om
  have e1:ek j (((65:UInt8).toNat:Nat):Int)=j.gA:=rfl
  have e2:ek j (((66:UInt8).toNat:Nat):Int)=j.gB:=rfl
  have e3:ek j (((67:UInt8).toNat:Nat):Int)=j.gC:=rfl
  have e4:ek j (((75:UInt8).toNat:Nat):Int)=j.gK:=rfl
  have hB:=has_B hp.1;have hC:=has_C hp.1;have hK:=has_K hp.1
  unfold hasF at hB hC hK
  rcases fields_shape j.gOp with h5 | h5 | h5 | h5 | h5<;>rw[h5] at hB hC hK ⊢<;>simp only[List.map_cons,List.map_nil,e1,e2,e3,e4,goW,List.headD_cons,List.tail_cons,ha,hb,hc,hk]
  · have z1:j.gB=0:=by have:=mt hB.2 dE;omega
    have z2:j.gC=0:=by have:=mt hC.2 dE;omega
    obtain ⟨o,a,b,c,k⟩:=j;simp only at z1 z2;subst z1 z2;rfl
  · have z1:j.gK=0:=by have:=mt hK.2 dE;omega
    have z2:j.gC=0:=by have:=mt hC.2 dE;omega
    obtain ⟨o,a,b,c,k⟩:=j;simp only at z1 z2;subst z1 z2;rfl
  · have z2:j.gC=0:=by have:=mt hC.2 dE;omega
    obtain ⟨o,a,b,c,k⟩:=j;simp only at z2;subst z2;rfl
  · have z1:j.gK=0:=by have:=mt hK.2 dE;omega
    obtain ⟨o,a,b,c,k⟩:=j;simp only at z1;subst z1;rfl
  · rfl
theorem read_own {j:Ins} (h:dh j=true):ef refW (textLs j)=some j:=by
  have hp:=dO.1 h
  have hs:=split_text hp.1
  have ho:opW ((aQ 32 (textLs j)).headD [])=j.gOp:=by rw[hs];exact opW_name hp.1
  rw[readI_yes (by rw[ho];omega) (by rw[ho,hs,List.length_cons,List.length_map,cm];omega),ho,hs,List.tail_cons]
  exact goW_own h
theorem read_own_filter {j:Ins} (h:dh j=true):(ef refW (textLs j)).filter dh=some j:=by rw[read_own h,Option.filter_some,if_pos h]
theorem filter_some {r:Option Ins} {j:Ins} (h:r.filter dh=some j):r=some j∧dh j=true:=by
  cases r with
  | none=>cases h
  | some i =>
    rw[Option.filter_some] at h
    split at h
    · rename_i hf;have:=Option.some.inj h;subst this;exact⟨rfl,hf⟩
    · cases h
theorem text_len {j:Ins} (h:dh j=true):(textLs j).length≤95:=by
  have hp:=dO.1 h
  have hn:=name_size hp.1
  rw[← cm] at hn
  have hw:∀ c:UInt8,(c=65∨c=66∨c=67∨c=75)→(partL j c).length≤22:=fun c hc=>by
    have hb: -9223372036854775808≤ek j (c.toNat:Int)∧ek j (c.toNat:Int)≤9223372036854775807:=by
      rcases hc with rfl|rfl|rfl|rfl
      · show _≤j.gA∧j.gA≤_;omega
      · show _≤j.gB∧j.gB≤_;omega
      · show _≤j.gC∧j.gC≤_;omega
      · show _≤j.gK∧j.gK≤_;omega
    have:=itoa_len hb
    unfold partL eG
    rw[List.length_cons,List.length_append]
    split<;>simp only[List.length_nil,List.length_singleton]<;>omega
  have a:=hw 65 dE;have b:=hw 66 dE;have c:=hw 67 dE;have d:=hw 75 dE
  unfold textLs
  rw[List.length_append]
  rcases fields_shape j.gOp with h5 | h5 | h5 | h5 | h5<;>rw[h5]<;>simp only[List.flatMap_cons,List.flatMap_nil,List.length_append,List.length_nil]<;>omega
theorem textI_yes {j:Ins} (h:dh j=true):ls (textI j)=textLs j∧(textI j).size≤95:=by
  have e:ls (textI j)=textLs j:=by unfold textI;rw[if_pos h]
  exact⟨e,by rw[← cm,e];exact text_len h⟩
theorem textI_no {j:Ins} (h:dh j=false):textI j=ByteArray.empty:=by unfold textI;rw[if_neg (by rw[h];decide)]
theorem read_empty (f:UInt8→List UInt8→Option Int):ef f []=none:=by
  unfold ef;rw[if_pos];left
  rw[show(aQ 32 []).headD []=[] from rfl,show opW []=0 by decide +kernel];decide
theorem par_long {s:ByteArray} (h:100<s.size):dK s=bq∧parIE s=5:=by unfold dK parIE;rw[if_pos h,if_pos h];exact⟨rfl,rfl⟩
theorem par_val {s:ByteArray} {j:Ins} (h:¬ 100<s.size) (hf:(ef refW (ls s)).filter dh=some j):dK s=j∧parIE s=0:=by unfold dK parIE;rw[if_neg h,if_neg h,hf];exact⟨rfl,rfl⟩
theorem par_none {s:ByteArray} (h:¬ 100<s.size) (hf:(ef refW (ls s)).filter dh=none):dK s=bq∧parIE s=3:=by unfold dK parIE;rw[if_neg h,if_neg h,hf];exact⟨rfl,rfl⟩
theorem mat_none {s:ByteArray} (h:¬ 100<s.size) (hm:ef matW (ls s)=none):dK s=bq∧parIE s=3:=by
  cases hf:(ef refW (ls s)).filter dh with
  | none=>exact par_none h hf
  | some j=>have:=(read_ref (filter_some hf).1).1;rw[hm] at this;cases this
theorem mat_other {s:ByteArray} {j:Ins} (h:¬ 100<s.size) (hm:ef matW (ls s)=some j) (ht:((textI j).toList==s.toList)=false):dK s=bq∧parIE s=3:=by
  cases hf:(ef refW (ls s)).filter dh with
  | none=>exact par_none h hf
  | some i =>
    obtain ⟨h1,h2⟩:=filter_some hf
    obtain ⟨h3,h4⟩:=read_ref h1
    rw[hm] at h3
    have e:=Option.some.inj h3;subst e
    rw[beq_ls,beq_eq_false_iff_ne] at ht
    exact absurd ((textI_yes h2).1.trans h4) ht
theorem mat_same {s:ByteArray} {j:Ins} (h:¬ 100<s.size) (hm:ef matW (ls s)=some j) (ht:((textI j).toList==s.toList)=true):dK s=j∧parIE s=0:=by
  rw[beq_ls,beq_iff_eq] at ht
  cases hf:dh j with
  | false=>rw[textI_no hf] at ht;rw[← ht] at hm;rw[show ls ByteArray.empty=[] from rfl,read_empty] at hm;cases hm
  | true=>exact par_val h (by rw[← ht,(textI_yes hf).1];exact read_own_filter hf)
theorem wrapB (n:Int):IntKind.wrap .u8 n=n%256:=by simp[IntKind.wrap,IntKind.bits,IntKind.signed]
def aO (k:Int):Int:=k%18446744073709551616
def encL (i:Ins):List Int:=[i.gOp%256,i.gA%256,i.gB%256,i.gC%256,aO i.gK/72057594037927936%256,aO i.gK/281474976710656%256,aO i.gK/1099511627776%256,aO i.gK/4294967296%256,aO i.gK/16777216%256,aO i.gK/65536%256,aO i.gK/256%256,aO i.gK/1%256]
def encX (i:Ins):List Int:=if dh i then encL i else []
def encE (i:Ins):Int:=if dh i then 0 else 1
theorem encX_yes {i:Ins} (h:dh i=true):encX i=encL i∧encE i=0:=by unfold encX encE;rw[if_pos h,if_pos h];exact⟨rfl,rfl⟩
theorem encX_no {i:Ins} (h:dh i=false):encX i=[]∧encE i=1:=by unfold encX encE;rw[if_neg (by rw[h];decide),if_neg (by rw[h];decide)];exact⟨rfl,rfl⟩
theorem encX_len (i:Ins):(encX i).length=12∨(encX i).length=0:=by unfold encX;split;exact .inl rfl;exact .inr rfl
theorem has_yes {s:ByteArray} {c:Int} {i:Nat} (hi:i<s.size) (h:bD s i=c):hasF s c=true:=by
  unfold hasF;rw[List.any_eq_true]
  have hl:=cm s
  refine⟨(ls s).getD i 0,?_,by rw[beq_iff_eq,← h,fg]⟩
  rw[List.getD_eq_getElem?_getD,List.getElem?_eq_getElem om];exact List.getElem_mem _
theorem has_no {s:ByteArray} {c:Int} (h:∀ j,j<s.size→bD s j≠c):hasF s c=false:=by
  unfold hasF;rw[List.any_eq_false]
  intro x hx
  obtain ⟨j,hj,rfl⟩:=List.mem_iff_getElem.1 hx
  have:=h j (by rw[← cm];exact hj)
  rw[fg,List.getD_eq_getElem?_getD,List.getElem?_eq_getElem hj] at this
  simpa using this
theorem byte_eq {s:ByteArray} {k:Nat} {c:Nat} (hc:c<256):bD s k=c↔(ls s).getD k 0=UInt8.ofNat c:=by
  rw[fg]
  constructor
  · intro h;apply UInt8.toNat_inj.1;rw[UInt8.toNat_ofNat',Nat.mod_eq_of_lt om];omega
  · intro h;rw[h,UInt8.toNat_ofNat',Nat.mod_eq_of_lt om]
theorem take_one {l:List UInt8} {k:Nat} (hk:k<l.length):l.take (k+1)=l.take k++[l.getD k 0]:=by
  rw[List.take_add_one,List.getD_eq_getElem?_getD,List.getElem?_eq_getElem hk];rfl
theorem text_step {i:Ins} {t u F:ByteArray} {N:List UInt8} {k:Int} (h0:0≤k) (hk:k<(F.size:Int)) (ht:ls t=N++((ls F).take k.toNat).flatMap (partL i)) (hu:ls u=ls t++partL i ((ls F).getD k.toNat 0)) :
    ls u=N++((ls F).take (k+1).toNat).flatMap (partL i):=by
  rw[hu,ht,show(k+1).toNat=k.toNat+1 by omega,take_one (by rw[cm];omega),List.flatMap_append,List.append_assoc];simp
theorem part_r {i:Ins} {t F:ByteArray} {k:Nat} (h:bD F k≠75):ls (((t++(⟨#[32]⟩:ByteArray))++(⟨#[114]⟩:ByteArray))++itoaB (ek i (bD F k)))=ls t++partL i ((ls F).getD k 0):=by
  unfold partL eG
  rw[if_neg (show ¬ (ls F).getD k 0=75 from fun e=>h ((byte_eq (c:=75) dE).2 e)),ls_append,ls_append,ls_append,← fg]
  simp only[List.append_assoc];rfl
theorem part_k {i:Ins} {t F:ByteArray} {k:Nat} (h:bD F k=75):ls ((t++(⟨#[32]⟩:ByteArray))++itoaB (ek i (bD F k)))=ls t++partL i ((ls F).getD k 0):=by
  unfold partL eG
  rw[if_pos (show(ls F).getD k 0=75 from (byte_eq (c:=75) dE).1 h),ls_append,ls_append,← fg]
  simp only[List.append_assoc];rfl
theorem fld_bd {i:Ins} (h:(-9223372036854775808≤i.gA∧i.gA≤9223372036854775807)∧(-9223372036854775808≤i.gB∧i.gB≤9223372036854775807)∧(-9223372036854775808≤i.gC∧i.gC≤9223372036854775807)∧(-9223372036854775808≤i.gK∧i.gK≤9223372036854775807)) (c:Int): -9223372036854775808≤ek i c∧ek i c≤9223372036854775807:=by
  unfold ek;repeat' split
  · exact h.1
  · exact h.2.1
  · exact h.2.2.1
  · exact h.2.2.2
theorem text_done {i:Ins} {t:ByteArray} (h:dh i=true) (ht:ls t=ls (aw.getD i.gOp.toNat aZ).gname++((ls (aw.getD i.gOp.toNat aZ).gfields).take (aw.getD i.gOp.toNat aZ).gfields.size).flatMap (partL i)):t=textI i:=by
  have hp:=dO.1 h
  obtain ⟨r1,r2,_⟩:=rows_at hp.1
  apply ls_inj
  rw[(textI_yes h).1,ht,r1,r2,← cm,List.take_length];rfl
theorem trim_eq (w:List UInt8):Lib.trimPrefix w [114]=trimR w:=by
  unfold Lib.trimPrefix Lib.hasPrefix trimR
  cases w with
  | nil=>rfl
  | cons x r =>
    by_cases hx:x=114
    · subst hx;simp
    · simp[hx,Ne.symm hx]

theorem hb48:af prog 48:=fun _ _=>by kernel_rfl
def K48_0:=adv 11 [] (bo Tryz.f48)
theorem uses_any (s:ByteArray) (c:Int) (w:World) (hs:s.size≤9223372036854775807):Ret prog 48 #[.string s,.int .u8 c] w (fun v w'=>v=.bool (hasF s c)∧Sep w [] w'):=by
 refine Ret.st (N:=17) func48 fun R hR S0=>?_
 have L48_1:∀ (mm_:Nat) (i:Int) (w1:World),(0≤i)→(i≤(s.size:Int))→(∀ j,j<(i).toNat→bD s j≠c)→Sep w [] w1→((s.size:Int)-i).toNat=mm_→J prog 48 17 R K48_0 [(5,iv i),(0,.string s),(1,.int .u8 c)] w1:=by
  intro mm1
  induction mm1 using Nat.strongRecOn with
  | _ mm1 ih1 =>
  intro i w1 h0 h1 hq S1 hm1
  refine J.c 8 [] [] [] 9 (i<(s.size:Int)) (fun fk1=>?_) fun fk1=>?_
  refine J.r 8 [true] [(13,iv i),(12,.string s)] [] ?_
  have:=ee s (i).toNat
  refine J.ok (OK.byte 14 9 s i (bD s (i).toNat) kr kr om om (rfl))<|J.c 3 [] [] [] 16 ((bD s (i).toNat)=c) (fun fk2=>?_) fun fk2=>?_
  refine J.e 5 [.bool true] func48 (hR _ _ ?_)
  exact⟨congrArg Value.bool (has_yes (i:=i.toNat) om om).symm,S1.nil⟩
  exact J.wi 6 [false] [] [] 11 (i+1)<|J.t 3 (ih1 _ (show((s.size:Int)-(i+1)).toNat<mm1 from by omega) (i+1) w1 om om (dg_step (q:=fun j=>bD s j≠c) h0 hq om) S1 rfl)
  refine J.e 6 [.bool false] func48 (hR _ _ ?_)
  exact⟨congrArg Value.bool (has_no fun j hj=>hq j om).symm,S1.nil⟩
 exact J.t 11 (L48_1 _ 0 w om om (by intro j hj;simp at hj) S0 rfl)

theorem hb17:af prog 17:=fun _ _=>by kernel_rfl
def K17_0:=List.drop 1 (adv 58 [false] (bo Tryz.f17))
def K17_1:=List.drop 1 (adv 35 [false,false] K17_0)
def K17_2:=List.drop 1 (adv 7 [false] K17_1)
def K17_3:=List.drop 1 (adv 7 [false] K17_2)
theorem rformed_any (i:Ins) (w:World) (hi:insQ w i):Ret prog 17 #[.agg (dm i)] w (fun v w'=>v=.bool (dh i)∧Sep w [] w'):=by
 refine Ret.st (N:=170) func17 fun R hR S0=>?_
 obtain ⟨q1,q2,q3,q4,q5,_⟩:=id hi
 have hfz:=fields_size (op:=i.gOp)
 refine J.nw 2 [] [] [] S0 1 (aR i) 48 fun b1 w1 S1=>J.lb 6 [] [] [] S1 0 rfl 8 (iv i.gOp)<|J.c 2 [] [] [] 10 (i.gOp<1) (fun fk1=>?_) fun fk1=>?_
 refine J.e 40 [.bool false] func17 (hR _ _ ?_)
 exact⟨congrArg Value.bool (decide_eq_false (show ¬ (cY i.gOp i.gA i.gB i.gC i.gK) by omega)).symm,S1.nil⟩
 refine J.lb 1 [] [] [] S1 0 rfl 12 (iv i.gOp)<|J.c 3 [] [] [] 15 (i.gOp>22) (fun fk2=>?_) fun fk2=>?_
 refine J.e 35 [.bool false] func17 (hR _ _ ?_)
 exact⟨congrArg Value.bool (decide_eq_false (show ¬ (cY i.gOp i.gA i.gB i.gC i.gK) by omega)).symm,S1.nil⟩
 refine J.lb 1 [] [] [] S1 0 rfl 17 (iv i.gA)<|J.c 3 [] [] [] 20 (i.gA<0) (fun fk3=>?_) fun fk3=>?_
 refine J.e 30 [.bool false] func17 (hR _ _ ?_)
 exact⟨congrArg Value.bool (decide_eq_false (show ¬ (cY i.gOp i.gA i.gB i.gC i.gK) by omega)).symm,S1.nil⟩
 refine J.lb 1 [] [] [] S1 0 rfl 22 (iv i.gA)<|J.c 3 [] [] [] 25 (i.gA>15) (fun fk4=>?_) fun fk4=>?_
 refine J.e 25 [.bool false] func17 (hR _ _ ?_)
 exact⟨congrArg Value.bool (decide_eq_false (show ¬ (cY i.gOp i.gA i.gB i.gC i.gK) by omega)).symm,S1.nil⟩
 refine J.lb 1 [] [] [] S1 0 rfl 27 (iv i.gB)<|J.c 3 [] [] [] 30 (i.gB<0) (fun fk5=>?_) fun fk5=>?_
 refine J.e 20 [.bool false] func17 (hR _ _ ?_)
 exact⟨congrArg Value.bool (decide_eq_false (show ¬ (cY i.gOp i.gA i.gB i.gC i.gK) by omega)).symm,S1.nil⟩
 refine J.lb 1 [] [] [] S1 0 rfl 32 (iv i.gB)<|J.c 3 [] [] [] 35 (i.gB>15) (fun fk6=>?_) fun fk6=>?_
 refine J.e 15 [.bool false] func17 (hR _ _ ?_)
 exact⟨congrArg Value.bool (decide_eq_false (show ¬ (cY i.gOp i.gA i.gB i.gC i.gK) by omega)).symm,S1.nil⟩
 refine J.lb 1 [] [] [] S1 0 rfl 37 (iv i.gC)<|J.c 3 [] [] [] 40 (i.gC<0) (fun fk7=>?_) fun fk7=>?_
 refine J.e 10 [.bool false] func17 (hR _ _ ?_)
 exact⟨congrArg Value.bool (decide_eq_false (show ¬ (cY i.gOp i.gA i.gB i.gC i.gK) by omega)).symm,S1.nil⟩
 refine J.lb 1 [] [] [] S1 0 rfl 42 (iv i.gC)<|J.c 3 [] [] [] 44 (i.gC>15) (fun fk8=>?_) fun fk8=>?_
 refine J.e 5 [.bool false] func17 (hR _ _ ?_)
 exact⟨congrArg Value.bool (decide_eq_false (show ¬ (cY i.gOp i.gA i.gB i.gC i.gK) by omega)).symm,S1.nil⟩
 refine J.lb 5 [false] [] [] S1 0 rfl 46 (iv i.gOp)<|J.c0 0 [] [] [] S1 47 hb47 (rfields_any i.gOp _ om) fun w2 S2=>?_
 have:=fields_size (op:=i.gOp)
 have X1:∀ (tb:Bool) (w3:World),((tb=true→¬ ((4≤i.gOp∨i.gB=0)∧(useC i.gOp∨i.gC=0)∧(useK i.gOp∨i.gK=0)))∧(tb=false→(4≤i.gOp∨i.gB=0)∧(useC i.gOp∨i.gC=0)∧(useK i.gOp∨i.gK=0)))→Sep w [box b1 (aR i) 48] w3→J prog 17 170 R K17_0 [(1,pv b1),(75,.bool tb)] w3:=by
  intro tb w3 htb S3
  refine J.b 0 [] [] [] 75 tb (fun fk9=>?_) fun fk9=>?_
  have fb1:=htb.1 fk9
  refine J.e 5 [.bool false] func17 (hR _ _ ?_)
  exact⟨congrArg Value.bool (decide_eq_false (show ¬ (cY i.gOp i.gA i.gB i.gC i.gK) by omega)).symm,S3.nil⟩
  have fb2:=htb.2 fk9
  refine J.lb 5 [false] [] [] S3 0 rfl 78 (iv i.gK)<|J.h 1 [] [] [] 79 (iv (if 0>i.gK then 0 else i.gK)) (iv (max i.gK 0)) (congrArg (Value.int .i64) om)<|J.c0 0 [] [] [] S3 80 hb34 (rtypes_any (max i.gK 0) _ om) fun w4 S4=>J.lb 12 [] [(6,iv ((max i.gK 0)%128)),(5,iv ((max i.gK 0)/128%128)),(4,iv ((max i.gK 0)/16384))] [] S4 0 rfl 85 (iv i.gOp)<|J.c 7 [] [] [] 86 (i.gOp=1) (fun fk10=>?_) fun fk10=>?_
  refine J.lb 4 [true] [] [] S4 0 rfl 89 (iv i.gK)<|J.c 2 [] [] [] 91 (i.gK≥(-1099511627776)) (fun fk11=>?_) fun fk11=>?_
  refine J.lb 1 [] [] [] S4 0 rfl 93 (iv i.gK)<|J.e 4 [.bool (decide (i.gK≤1099511627776))] func17 (hR _ _ ?_)
  exact⟨congrArg Value.bool (by show(decide (i.gK≤1099511627776))=decide (cY i.gOp i.gA i.gB i.gC i.gK);by_cases hz_:i.gK≤1099511627776;(rw[(decide_eq_true hz_)];first | exact(decide_eq_true om).symm | exact(decide_eq_false om).symm);(rw[(decide_eq_false hz_)];first | exact(decide_eq_false om).symm | exact(decide_eq_true om).symm)),S4.nil⟩
  refine J.e 6 [.bool false] func17 (hR _ _ ?_)
  exact⟨congrArg Value.bool (decide_eq_false (show ¬ (cY i.gOp i.gA i.gB i.gC i.gK) by omega)).symm,S4.nil⟩
  have X2:∀ (tj96:Bool) (w5:World),((tj96=true→(i.gOp=5∨i.gOp=6∨i.gOp=7∨i.gOp=8))∧(tj96=false→¬ (i.gOp=5∨i.gOp=6∨i.gOp=7∨i.gOp=8)))→Sep w [box b1 (aR i) 48] w5→J prog 17 170 R K17_1 [(85,iv i.gOp),(6,iv ((max i.gK 0)%128)),(5,iv ((max i.gK 0)/128%128)),(4,iv ((max i.gK 0)/16384)),(1,pv b1),(96,.bool tj96)] w5:=by
   intro tj96 w5 htj96 S5
   refine J.b 0 [] [] [] 96 tj96 (fun fk12=>?_) fun fk12=>?_
   have fb3:=htj96.1 fk12
   refine J.lb 4 [true] [] [] S5 0 rfl 102 (iv i.gK)<|J.c 2 [] [] [] 104 (i.gK≥0) (fun fk13=>?_) fun fk13=>?_
   refine J.e 5 [.bool (decide (((max i.gK 0)/16384)<128))] func17 (hR _ _ ?_)
   exact⟨congrArg Value.bool (by show(decide (((max i.gK 0)/16384)<128))=decide (cY i.gOp i.gA i.gB i.gC i.gK);by_cases hz_:((max i.gK 0)/16384)<128;(rw[(decide_eq_true hz_)];first | exact(decide_eq_true om).symm | exact(decide_eq_false om).symm);(rw[(decide_eq_false hz_)];first | exact(decide_eq_false om).symm | exact(decide_eq_true om).symm)),S5.nil⟩
   refine J.e 5 [.bool false] func17 (hR _ _ ?_)
   exact⟨congrArg Value.bool (decide_eq_false (show ¬ (cY i.gOp i.gA i.gB i.gC i.gK) by omega)).symm,S5.nil⟩
   have fb4:=htj96.2 fk12
   have X3:∀ (tj108:Bool) (w6:World),((tj108=true→(i.gOp=9∨i.gOp=10))∧(tj108=false→¬ (i.gOp=9∨i.gOp=10)))→Sep w [box b1 (aR i) 48] w6→J prog 17 170 R K17_2 [(85,iv i.gOp),(6,iv ((max i.gK 0)%128)),(5,iv ((max i.gK 0)/128%128)),(4,iv ((max i.gK 0)/16384)),(1,pv b1),(108,.bool tj108)] w6:=by
    intro tj108 w6 htj108 S6
    refine J.b 0 [] [] [] 108 tj108 (fun fk14=>?_) fun fk14=>?_
    have fb5:=htj108.1 fk14
    refine J.lb 4 [true] [] [] S6 0 rfl 112 (iv i.gK)<|J.c 2 [] [] [] 114 (i.gK≥0) (fun fk15=>?_) fun fk15=>?_
    refine J.c 4 [] [] [] 118 (((max i.gK 0)/16384)<128) (fun fk16=>?_) fun fk16=>?_
    refine J.e 5 [.bool (((max i.gK 0)/128%128)==0)] func17 (hR _ _ ?_)
    exact⟨congrArg Value.bool (by show(((max i.gK 0)/128%128)==0)=decide (cY i.gOp i.gA i.gB i.gC i.gK);by_cases hz_:((max i.gK 0)/128%128)=0;(rw[(beq_iff_eq.2 hz_)];first | exact(decide_eq_true om).symm | exact(decide_eq_false om).symm);(rw[(beq_eq_false_iff_ne.2 hz_)];first | exact(decide_eq_false om).symm | exact(decide_eq_true om).symm)),S6.nil⟩
    refine J.e 5 [.bool false] func17 (hR _ _ ?_)
    exact⟨congrArg Value.bool (decide_eq_false (show ¬ (cY i.gOp i.gA i.gB i.gC i.gK) by omega)).symm,S6.nil⟩
    refine J.e 9 [.bool false] func17 (hR _ _ ?_)
    exact⟨congrArg Value.bool (decide_eq_false (show ¬ (cY i.gOp i.gA i.gB i.gC i.gK) by omega)).symm,S6.nil⟩
    have fb6:=htj108.2 fk14
    have X4:∀ (tj122:Bool) (w7:World),((tj122=true→(i.gOp=13∨i.gOp=14))∧(tj122=false→¬ (i.gOp=13∨i.gOp=14)))→Sep w [box b1 (aR i) 48] w7→J prog 17 170 R K17_3 [(85,iv i.gOp),(6,iv ((max i.gK 0)%128)),(4,iv ((max i.gK 0)/16384)),(1,pv b1),(122,.bool tj122)] w7:=by
     intro tj122 w7 htj122 S7
     refine J.b 0 [] [] [] 122 tj122 (fun fk17=>?_) fun fk17=>?_
     have fb7:=htj122.1 fk17
     refine J.lb 4 [true] [] [] S7 0 rfl 126 (iv i.gK)<|J.c 2 [] [] [] 128 (i.gK≥0) (fun fk18=>?_) fun fk18=>?_
     refine J.c 4 [] [] [] 132 (((max i.gK 0)/16384)<128) (fun fk19=>?_) fun fk19=>?_
     refine J.e 5 [.bool (((max i.gK 0)%128)==0)] func17 (hR _ _ ?_)
     exact⟨congrArg Value.bool (by show(((max i.gK 0)%128)==0)=decide (cY i.gOp i.gA i.gB i.gC i.gK);by_cases hz_:((max i.gK 0)%128)=0;(rw[(beq_iff_eq.2 hz_)];first | exact(decide_eq_true om).symm | exact(decide_eq_false om).symm);(rw[(beq_eq_false_iff_ne.2 hz_)];first | exact(decide_eq_false om).symm | exact(decide_eq_true om).symm)),S7.nil⟩
     refine J.e 5 [.bool false] func17 (hR _ _ ?_)
     exact⟨congrArg Value.bool (decide_eq_false (show ¬ (cY i.gOp i.gA i.gB i.gC i.gK) by omega)).symm,S7.nil⟩
     refine J.e 9 [.bool false] func17 (hR _ _ ?_)
     exact⟨congrArg Value.bool (decide_eq_false (show ¬ (cY i.gOp i.gA i.gB i.gC i.gK) by omega)).symm,S7.nil⟩
     have fb8:=htj122.2 fk17
     refine J.c 6 [false] [] [] 136 (i.gOp=19) (fun fk20=>?_) fun fk20=>?_
     refine J.lb 4 [true] [] [] S7 0 rfl 139 (iv i.gK)<|J.c 2 [] [] [] 141 (i.gK≥0) (fun fk21=>?_) fun fk21=>?_
     refine J.lb 1 [] [] [] S7 0 rfl 143 (iv i.gK)<|J.e 4 [.bool (decide (i.gK≤15))] func17 (hR _ _ ?_)
     exact⟨congrArg Value.bool (by show(decide (i.gK≤15))=decide (cY i.gOp i.gA i.gB i.gC i.gK);by_cases hz_:i.gK≤15;(rw[(decide_eq_true hz_)];first | exact(decide_eq_true om).symm | exact(decide_eq_false om).symm);(rw[(decide_eq_false hz_)];first | exact(decide_eq_false om).symm | exact(decide_eq_true om).symm)),S7.nil⟩
     refine J.e 6 [.bool false] func17 (hR _ _ ?_)
     exact⟨congrArg Value.bool (decide_eq_false (show ¬ (cY i.gOp i.gA i.gB i.gC i.gK) by omega)).symm,S7.nil⟩
     refine J.c 6 [false] [] [] 146 (i.gOp=22) (fun fk22=>?_) fun fk22=>?_
     refine J.lb 4 [true] [] [] S7 0 rfl 149 (iv i.gK)<|J.c 2 [] [] [] 151 (i.gK≥0) (fun fk23=>?_) fun fk23=>?_
     refine J.lb 1 [] [] [] S7 0 rfl 153 (iv i.gK)<|J.c 3 [] [] [] 156 (i.gK≤32767) (fun fk24=>?_) fun fk24=>?_
     refine J.lb 1 [] [] [] S7 0 rfl 158 (iv i.gK)<|J.h 1 [] [] [] 159 (iv (Int.tmod i.gK 32)) (iv (i.gK%32)) (congrArg (Value.int .i64) (IntWalk.rem_in _ _ om))<|J.e 4 [.bool (decide ((i.gK%32)≤20))] func17 (hR _ _ ?_)
     exact⟨congrArg Value.bool (by show(decide ((i.gK%32)≤20))=decide (cY i.gOp i.gA i.gB i.gC i.gK);by_cases hz_:(i.gK%32)≤20;(rw[(decide_eq_true hz_)];first | exact(decide_eq_true om).symm | exact(decide_eq_false om).symm);(rw[(decide_eq_false hz_)];first | exact(decide_eq_false om).symm | exact(decide_eq_true om).symm)),S7.nil⟩
     refine J.e 7 [.bool false] func17 (hR _ _ ?_)
     exact⟨congrArg Value.bool (decide_eq_false (show ¬ (cY i.gOp i.gA i.gB i.gC i.gK) by omega)).symm,S7.nil⟩
     refine J.e 12 [.bool false] func17 (hR _ _ ?_)
     exact⟨congrArg Value.bool (decide_eq_false (show ¬ (cY i.gOp i.gA i.gB i.gC i.gK) by omega)).symm,S7.nil⟩
     refine J.lb 6 [false] [] [] S7 0 rfl 163 (iv i.gK)<|J.c 2 [] [] [] 165 (i.gK≥0) (fun fk25=>?_) fun fk25=>?_
     refine J.lb 1 [] [] [] S7 0 rfl 167 (iv i.gK)<|J.e 4 [.bool (decide (i.gK≤32767))] func17 (hR _ _ ?_)
     exact⟨congrArg Value.bool (by show(decide (i.gK≤32767))=decide (cY i.gOp i.gA i.gB i.gC i.gK);by_cases hz_:i.gK≤32767;(rw[(decide_eq_true hz_)];first | exact(decide_eq_true om).symm | exact(decide_eq_false om).symm);(rw[(decide_eq_false hz_)];first | exact(decide_eq_false om).symm | exact(decide_eq_true om).symm)),S7.nil⟩
     refine J.e 6 [.bool false] func17 (hR _ _ ?_)
     exact⟨congrArg Value.bool (decide_eq_false (show ¬ (cY i.gOp i.gA i.gB i.gC i.gK) by omega)).symm,S7.nil⟩
    refine J.c 7 [false] [] [] 122 (i.gOp=13) (fun fk26=>?_) fun fk26=>?_
    exact J.t 2 (X4 true w6 (⟨fun h_=>by first | (cases h_;done) | (have h2_:=of_decide_eq_true h_;omega) | (have h2_:=beq_iff_eq.1 h_;omega) | omega,fun h_=>by first | (cases h_;done) | (have h2_:=of_decide_eq_false h_;omega) | (have h2_:=beq_eq_false_iff_ne.1 h_;omega) | omega⟩) S6)
    exact J.t 5 (X4 (i.gOp==14) w6 (⟨fun h_=>by first | (cases h_;done) | (have h2_:=of_decide_eq_true h_;omega) | (have h2_:=beq_iff_eq.1 h_;omega) | omega,fun h_=>by first | (cases h_;done) | (have h2_:=of_decide_eq_false h_;omega) | (have h2_:=beq_eq_false_iff_ne.1 h_;omega) | omega⟩) S6)
   refine J.c 7 [false] [] [] 108 (i.gOp=9) (fun fk27=>?_) fun fk27=>?_
   exact J.t 2 (X3 true w5 (⟨fun h_=>by first | (cases h_;done) | (have h2_:=of_decide_eq_true h_;omega) | (have h2_:=beq_iff_eq.1 h_;omega) | omega,fun h_=>by first | (cases h_;done) | (have h2_:=of_decide_eq_false h_;omega) | (have h2_:=beq_eq_false_iff_ne.1 h_;omega) | omega⟩) S5)
   exact J.t 5 (X3 (i.gOp==10) w5 (⟨fun h_=>by first | (cases h_;done) | (have h2_:=of_decide_eq_true h_;omega) | (have h2_:=beq_iff_eq.1 h_;omega) | omega,fun h_=>by first | (cases h_;done) | (have h2_:=of_decide_eq_false h_;omega) | (have h2_:=beq_eq_false_iff_ne.1 h_;omega) | omega⟩) S5)
  refine J.c 7 [false] [] [] 96 (i.gOp=5) (fun fk28=>?_) fun fk28=>?_
  exact J.t 2 (X2 true w4 (⟨fun h_=>by first | (cases h_;done) | (have h2_:=of_decide_eq_true h_;omega) | (have h2_:=beq_iff_eq.1 h_;omega) | omega,fun h_=>by first | (cases h_;done) | (have h2_:=of_decide_eq_false h_;omega) | (have h2_:=beq_eq_false_iff_ne.1 h_;omega) | omega⟩) S4)
  refine J.c 6 [false] [] [96] 96 (i.gOp=6) (fun fk29=>?_) fun fk29=>?_
  exact J.t 2 (X2 true w4 (⟨fun h_=>by first | (cases h_;done) | (have h2_:=of_decide_eq_true h_;omega) | (have h2_:=beq_iff_eq.1 h_;omega) | omega,fun h_=>by first | (cases h_;done) | (have h2_:=of_decide_eq_false h_;omega) | (have h2_:=beq_eq_false_iff_ne.1 h_;omega) | omega⟩) S4)
  refine J.c 6 [false] [] [96] 96 (i.gOp=7) (fun fk30=>?_) fun fk30=>?_
  exact J.t 2 (X2 true w4 (⟨fun h_=>by first | (cases h_;done) | (have h2_:=of_decide_eq_true h_;omega) | (have h2_:=beq_iff_eq.1 h_;omega) | omega,fun h_=>by first | (cases h_;done) | (have h2_:=of_decide_eq_false h_;omega) | (have h2_:=beq_eq_false_iff_ne.1 h_;omega) | omega⟩) S4)
  exact J.t 5 (X2 (i.gOp==8) w4 (⟨fun h_=>by first | (cases h_;done) | (have h2_:=of_decide_eq_true h_;omega) | (have h2_:=beq_iff_eq.1 h_;omega) | omega,fun h_=>by first | (cases h_;done) | (have h2_:=of_decide_eq_false h_;omega) | (have h2_:=beq_eq_false_iff_ne.1 h_;omega) | omega⟩) S4)
 refine J.c0 6 [] [(3,.string (aW i.gOp))] [] S2 49 hb48 (uses_any (aW i.gOp) 66 _ om) fun w8 S8=>J.bn 2 [] [] [] 51 (hasF (aW i.gOp) 66) (fun fk31=>?_) fun fk31=>?_
 have fb9:=(has_B (op:=i.gOp) om).1 fk31
 refine J.c0 6 [] [(56,.bool false)] [] S8 58 hb48 (uses_any (aW i.gOp) 67 _ om) fun w9 S9=>J.bn 2 [] [] [] 60 (hasF (aW i.gOp) 67) (fun fk32=>?_) fun fk32=>?_
 have fb10:=(has_C (op:=i.gOp) om).1 fk32
 refine J.c0 7 [] [(66,.bool false)] [] S9 68 hb48 (uses_any (aW i.gOp) 75 _ om) fun w10 S10=>J.bn 2 [] [] [] 70 (hasF (aW i.gOp) 75) (fun fk33=>?_) fun fk33=>?_
 have fb11:=(has_K (op:=i.gOp) om).1 fk33
 exact J.t 6 (X1 false w10 (⟨fun h_=>by first | (cases h_;done) | (have h2_:=of_decide_eq_true h_;omega) | (have h2_:=bne_iff_ne.1 h_;omega) | omega,fun h_=>by first | (cases h_;done) | (have h2_:=of_decide_eq_false h_;omega) | (have h2_:=bne_eq_false_iff_eq.1 h_;omega) | omega⟩) S10)
 have fb12:=mt (has_K (op:=i.gOp) om).2 (by rw[fk33];decide)
 exact J.lb 1 [] [] [] S10 0 rfl 72 (iv i.gK)<|J.t 4 (X1 (i.gK != 0) w10 (⟨fun h_=>by first | (cases h_;done) | (have h2_:=of_decide_eq_true h_;omega) | (have h2_:=bne_iff_ne.1 h_;omega) | omega,fun h_=>by first | (cases h_;done) | (have h2_:=of_decide_eq_false h_;omega) | (have h2_:=bne_eq_false_iff_eq.1 h_;omega) | omega⟩) S10)
 have fb13:=mt (has_C (op:=i.gOp) om).2 (by rw[fk32];decide)
 refine J.lb 1 [] [] [] S9 0 rfl 62 (iv i.gC)<|J.cn 4 [] [] [] 66 (i.gC=0) (fun fk34=>?_) fun fk34=>?_
 refine J.c0 1 [] [] [] S9 68 hb48 (uses_any (aW i.gOp) 75 _ om) fun w11 S11=>J.bn 2 [] [] [] 70 (hasF (aW i.gOp) 75) (fun fk35=>?_) fun fk35=>?_
 have fb14:=(has_K (op:=i.gOp) om).1 fk35
 exact J.t 6 (X1 false w11 (⟨fun h_=>by first | (cases h_;done) | (have h2_:=of_decide_eq_true h_;omega) | (have h2_:=bne_iff_ne.1 h_;omega) | omega,fun h_=>by first | (cases h_;done) | (have h2_:=of_decide_eq_false h_;omega) | (have h2_:=bne_eq_false_iff_eq.1 h_;omega) | omega⟩) S11)
 have fb15:=mt (has_K (op:=i.gOp) om).2 (by rw[fk35];decide)
 exact J.lb 1 [] [] [] S11 0 rfl 72 (iv i.gK)<|J.t 4 (X1 (i.gK != 0) w11 (⟨fun h_=>by first | (cases h_;done) | (have h2_:=of_decide_eq_true h_;omega) | (have h2_:=bne_iff_ne.1 h_;omega) | omega,fun h_=>by first | (cases h_;done) | (have h2_:=of_decide_eq_false h_;omega) | (have h2_:=bne_eq_false_iff_eq.1 h_;omega) | omega⟩) S11)
 exact J.t 10 (X1 true w9 (⟨fun h_=>by first | (cases h_;done) | (have h2_:=of_decide_eq_true h_;omega) | (have h2_:=bne_iff_ne.1 h_;omega) | omega,fun h_=>by first | (cases h_;done) | (have h2_:=of_decide_eq_false h_;omega) | (have h2_:=bne_eq_false_iff_eq.1 h_;omega) | omega⟩) S9)
 have fb16:=mt (has_B (op:=i.gOp) om).2 (by rw[fk31];decide)
 refine J.lb 1 [] [] [] S8 0 rfl 53 (iv i.gB)<|J.cn 3 [] [] [] 56 (i.gB=0) (fun fk36=>?_) fun fk36=>?_
 refine J.c0 1 [] [] [] S8 58 hb48 (uses_any (aW i.gOp) 67 _ om) fun w12 S12=>J.bn 2 [] [] [] 60 (hasF (aW i.gOp) 67) (fun fk37=>?_) fun fk37=>?_
 have fb17:=(has_C (op:=i.gOp) om).1 fk37
 refine J.c0 7 [] [(66,.bool false)] [] S12 68 hb48 (uses_any (aW i.gOp) 75 _ om) fun w13 S13=>J.bn 2 [] [] [] 70 (hasF (aW i.gOp) 75) (fun fk38=>?_) fun fk38=>?_
 have fb18:=(has_K (op:=i.gOp) om).1 fk38
 exact J.t 6 (X1 false w13 (⟨fun h_=>by first | (cases h_;done) | (have h2_:=of_decide_eq_true h_;omega) | (have h2_:=bne_iff_ne.1 h_;omega) | omega,fun h_=>by first | (cases h_;done) | (have h2_:=of_decide_eq_false h_;omega) | (have h2_:=bne_eq_false_iff_eq.1 h_;omega) | omega⟩) S13)
 have fb19:=mt (has_K (op:=i.gOp) om).2 (by rw[fk38];decide)
 exact J.lb 1 [] [] [] S13 0 rfl 72 (iv i.gK)<|J.t 4 (X1 (i.gK != 0) w13 (⟨fun h_=>by first | (cases h_;done) | (have h2_:=of_decide_eq_true h_;omega) | (have h2_:=bne_iff_ne.1 h_;omega) | omega,fun h_=>by first | (cases h_;done) | (have h2_:=of_decide_eq_false h_;omega) | (have h2_:=bne_eq_false_iff_eq.1 h_;omega) | omega⟩) S13)
 have fb20:=mt (has_C (op:=i.gOp) om).2 (by rw[fk37];decide)
 refine J.lb 1 [] [] [] S12 0 rfl 62 (iv i.gC)<|J.cn 4 [] [] [] 66 (i.gC=0) (fun fk39=>?_) fun fk39=>?_
 refine J.c0 1 [] [] [] S12 68 hb48 (uses_any (aW i.gOp) 75 _ om) fun w14 S14=>J.bn 2 [] [] [] 70 (hasF (aW i.gOp) 75) (fun fk40=>?_) fun fk40=>?_
 have fb21:=(has_K (op:=i.gOp) om).1 fk40
 exact J.t 6 (X1 false w14 (⟨fun h_=>by first | (cases h_;done) | (have h2_:=of_decide_eq_true h_;omega) | (have h2_:=bne_iff_ne.1 h_;omega) | omega,fun h_=>by first | (cases h_;done) | (have h2_:=of_decide_eq_false h_;omega) | (have h2_:=bne_eq_false_iff_eq.1 h_;omega) | omega⟩) S14)
 have fb22:=mt (has_K (op:=i.gOp) om).2 (by rw[fk40];decide)
 exact J.lb 1 [] [] [] S14 0 rfl 72 (iv i.gK)<|J.t 4 (X1 (i.gK != 0) w14 (⟨fun h_=>by first | (cases h_;done) | (have h2_:=of_decide_eq_true h_;omega) | (have h2_:=bne_iff_ne.1 h_;omega) | omega,fun h_=>by first | (cases h_;done) | (have h2_:=of_decide_eq_false h_;omega) | (have h2_:=bne_eq_false_iff_eq.1 h_;omega) | omega⟩) S14)
 exact J.t 10 (X1 true w12 (⟨fun h_=>by first | (cases h_;done) | (have h2_:=of_decide_eq_true h_;omega) | (have h2_:=bne_iff_ne.1 h_;omega) | omega,fun h_=>by first | (cases h_;done) | (have h2_:=of_decide_eq_false h_;omega) | (have h2_:=bne_eq_false_iff_eq.1 h_;omega) | omega⟩) S12)
 exact J.t 20 (X1 true w8 (⟨fun h_=>by first | (cases h_;done) | (have h2_:=of_decide_eq_true h_;omega) | (have h2_:=bne_iff_ne.1 h_;omega) | omega,fun h_=>by first | (cases h_;done) | (have h2_:=of_decide_eq_false h_;omega) | (have h2_:=bne_eq_false_iff_eq.1 h_;omega) | omega⟩) S8)

end
end Go.Proofs.YtaoolgcddapegaaGreatDoor

namespace Go.Proofs.YtaoolgcddapegaaGreatDoor
open Go.Eng Go.RowKit
set_option maxRecDepth 20000
set_option maxHeartbeats 20000000
structure Prg where
  cJ:Option Addr
  bu:Nat
  dn:Nat
  aC:List Ins
  aK:Option Addr
  al:Nat
  br:Nat
  ap:List Fxd
  bO:Option Addr
  bg:Nat
  bX:Nat
  bN:List Crv
  cu:Option Addr
  bI:Nat
  cI:Nat
  cB:List Mp
  aA:Int
  bf:Option Addr
  aE:Nat
  bi:Nat
  ao:List Int
  bw:Option Addr
  aV:Nat
  bt:Nat
  av:List Int
  bB:Option Addr
  aI:Nat
  bC:Nat
  aN:List Int
  cj:Option Addr
  bj:Nat
  cw:Nat
  bM:List Int
def prgQ (w:World) (x:Prg):Prop:=(x.bu≤x.dn∧x.dn≤9223372036854775807)∧Recs insE 5 w x.cJ x.bu x.aC∧(∀ y ∈ x.aC,(insQ w) y)∧(x.al≤x.br∧x.br≤9223372036854775807)∧Recs fxdE 10 w x.aK x.al x.ap∧(∀ y ∈ x.ap,(cE w) y)∧(x.bg≤x.bX∧x.bX≤9223372036854775807)∧Recs crvE 2 w x.bO x.bg x.bN∧(∀ y ∈ x.bN,(crvQ w) y)∧(x.bI≤x.cI∧x.cI≤9223372036854775807)∧Recs mpE 3 w x.cu x.bI x.cB∧(∀ y ∈ x.cB,(mpQ w) y)∧((-9223372036854775808)≤x.aA∧x.aA≤9223372036854775807)∧(x.aE≤x.bi∧x.bi≤9223372036854775807)∧Ones (Value.int .i64) w x.bf x.aE x.ao∧(∀ y ∈ x.ao,(fun n=>(-9223372036854775808)≤n∧n≤9223372036854775807) y)∧(x.aV≤x.bt∧x.bt≤9223372036854775807)∧Ones (Value.int .i64) w x.bw x.aV x.av∧(∀ y ∈ x.av,(fun n=>(-9223372036854775808)≤n∧n≤9223372036854775807) y)∧(x.aI≤x.bC∧x.bC≤9223372036854775807)∧Ones (Value.int .i64) w x.bB x.aI x.aN∧(∀ y ∈ x.aN,(fun n=>(-9223372036854775808)≤n∧n≤9223372036854775807) y)∧(x.bj≤x.cw∧x.cw≤9223372036854775807)∧Ones (Value.int .i64) w x.cj x.bj x.bM∧(∀ y ∈ x.bM,(fun n=>(-9223372036854775808)≤n∧n≤9223372036854775807) y)∧True
theorem dN {w0 w:World} {L:List Eng.Claim} {x:Prg} (h:prgQ w0 x) (S:Sep w0 L w):prgQ w x:=by
  obtain ⟨hgCode1,hgCode2,hgCode3,hgTypes1,hgTypes2,hgTypes3,hgCurves1,hgCurves2,hgCurves3,hgMaps1,hgMaps2,hgMaps3,hgCells,hgInputs1,hgInputs2,hgInputs3,hgStates1,hgStates2,hgStates3,hgOutputs1,hgOutputs2,hgOutputs3,hgInitial1,hgInitial2,hgInitial3,_⟩:=h
  exact⟨hgCode1,hgCode2.sep S,fun y hy=>df (hgCode3 y hy) S,hgTypes1,hgTypes2.sep S,fun y hy=>aq (hgTypes3 y hy) S,hgCurves1,hgCurves2.sep S,fun y hy=>ec (hgCurves3 y hy) S,hgMaps1,hgMaps2.sep S,fun y hy=>eh (hgMaps3 y hy) S,hgCells,hgInputs1,hgInputs2.sep S,hgInputs3,hgStates1,hgStates2.sep S,hgStates3,hgOutputs1,hgOutputs2.sep S,hgOutputs3,hgInitial1,hgInitial2.sep S,hgInitial3,trivial⟩
abbrev ba (x:Prg):List Value:=[.slice x.cJ x.bu x.dn,.slice x.aK x.al x.br,.slice x.bO x.bg x.bX,.slice x.cu x.bI x.cI,iv x.aA,.slice x.bf x.aE x.bi,.slice x.bw x.aV x.bt,.slice x.bB x.aI x.bC,.slice x.cj x.bj x.cw]
abbrev eb (x:Prg):Array Value:=#[.slice x.cJ x.bu x.dn,.slice x.aK x.al x.br,.slice x.bO x.bg x.bX,.slice x.cu x.bI x.cI,iv x.aA,.slice x.bf x.aE x.bi,.slice x.bw x.aV x.bt,.slice x.bB x.aI x.bC,.slice x.cj x.bj x.cw]
structure Mch where
  gRegs_0:Int
  gRegs_1:Int
  gRegs_2:Int
  gRegs_3:Int
  gRegs_4:Int
  gRegs_5:Int
  gRegs_6:Int
  gRegs_7:Int
  gRegs_8:Int
  gRegs_9:Int
  gRegs_10:Int
  gRegs_11:Int
  gRegs_12:Int
  gRegs_13:Int
  gRegs_14:Int
  gRegs_15:Int
  gCells_a:Option Addr
  gCells_n:Nat
  gCells_c:Nat
  gCells_l:List Int
def tyN (p:Prg) (k:Int):Fxd:=p.ap.getD k.toNat fx0
def tyOK (p:Prg) (op k:Int):Bool:=decide (k/16384<(p.al:Int)∧(op=9∨op=10∨k/128%128<(p.al:Int))∧(op=13∨op=14∨k%128<(p.al:Int)))
def tyA (p:Prg) (op k:Int):Fxd:=if tyOK p op k then tyN p (k/16384) else fx0
def tyB (p:Prg) (op k:Int):Fxd:=if tyOK p op k&&decide (op≠9∧op≠10) then tyN p (k/128%128) else fx0
def tyC (p:Prg) (op k:Int):Fxd:=if tyOK p op k&&decide (op≠13∧op≠14) then tyN p (k%128) else fx0
def cv (p:Prg) (i:Ins):Bool :=
  if i.gOp=2∨i.gOp=3 then decide (i.gK<p.aA) else if i.gOp=20 then decide (i.gK<(p.bg:Int)) else if i.gOp=21 then decide (i.gK<(p.bI:Int)) else if i.gOp=22 then decide (i.gK/32+1<p.aA)
  else if el i.gOp then tyOK p i.gOp i.gK&&cW i.gOp (au (tyA p i.gOp i.gK)) (au (tyB p i.gOp i.gK)) (au (tyC p i.gOp i.gK)) else true
def cT (p:Prg) (i:Ins):Bool:=dh i&&cv p i
def cK (n:Int) (l:List Int):Bool:=decide (l.length≤1000)&&l.all fun c=>decide (0≤c)&&decide (c<n)
def initB (n:Int):Bool:=decide (-1099511627776≤n)&&decide (n≤1099511627776)
abbrev lenP (p:Prg):Prop:=p.bu≤4000∧p.al≤100∧p.bg≤100∧p.bI≤100∧0≤p.aA∧p.aA≤1000
def dz (p:Prg):Bool :=
  decide (lenP p)&&(p.ap.all bP&&(p.bN.all cF&&(p.cB.all co&&(p.aC.all (cT p)&&(cK p.aA p.ao&&(cK p.aA p.aN&&(cK p.aA p.av&&(decide (p.bj=p.aV)&&(decide (p.ao++p.av).Nodup&&p.bM.all initB)))))))))
theorem bh {p:Prg} (h:¬ lenP p∨p.ap.all bP=false∨p.bN.all cF=false∨p.cB.all co=false∨p.aC.all (cT p)=false∨cK p.aA p.ao=false∨cK p.aA p.aN=false∨cK p.aA p.av=false∨p.bj≠p.aV∨¬ (p.ao++p.av).Nodup∨p.bM.all initB=false):dz p=false:=by
  unfold dz
  rcases h with h | h | h | h | h | h | h | h | h | h | h
  · rw[decide_eq_false h];rfl
  · rw[h];simp
  · rw[h];simp
  · rw[h];simp
  · rw[h];simp
  · rw[h];simp
  · rw[h];simp
  · rw[h];simp
  · rw[decide_eq_false h];simp
  · rw[decide_eq_false h];simp
  · rw[h];simp
theorem validP_yes {p:Prg} (h1:lenP p) (h2:p.ap.all bP=true) (h3:p.bN.all cF=true) (h4:p.cB.all co=true) (h5:p.aC.all (cT p)=true) (h6:cK p.aA p.ao=true) (h7:cK p.aA p.aN=true) (h8:cK p.aA p.av=true) (h9:p.bj=p.aV) (h10:(p.ao++p.av).Nodup) (h11:p.bM.all initB=true):dz p=true:=by
  unfold dz;rw[decide_eq_true h1,h2,h3,h4,h5,h6,h7,h8,decide_eq_true h9,decide_eq_true h10,h11];rfl
theorem dR {p:Prg} (h:dz p=true):lenP p∧p.ap.all bP=true∧p.bN.all cF=true∧p.cB.all co=true∧p.aC.all (cT p)=true∧cK p.aA p.ao=true∧cK p.aA p.aN=true∧cK p.aA p.av=true∧p.bj=p.aV∧(p.ao++p.av).Nodup∧p.bM.all initB=true:=by
  unfold dz at h
  simp only[Bool.and_eq_true,decide_eq_true_eq] at h
  exact h
theorem cS {n:Int} {l:List Int} (h:cK n l=true):l.length≤1000∧∀ j,j<l.length→0≤l.getD j 0∧l.getD j 0<n:=by
  unfold cK at h
  simp only[Bool.and_eq_true,decide_eq_true_eq] at h
  refine⟨h.1,fun j hj=>?_⟩
  have:=(cN 0).1 h.2 j hj
  simpa using this
theorem cellsL_yes {n:Int} {l:List Int} (h1:l.length≤1000) (h2:∀ j,j<l.length→0≤l.getD j 0∧l.getD j 0<n):cK n l=true:=by
  unfold cK;rw[decide_eq_true h1,Bool.true_and];exact(cN 0).2 fun j hj=>by simpa using h2 j hj
theorem cellsL_long {n:Int} {l:List Int} (h:¬ l.length≤1000):cK n l=false:=by unfold cK;rw[decide_eq_false h];rfl
theorem cellsL_bad {n:Int} {l:List Int} {j:Nat} (hj:j<l.length) (h:l.getD j 0<0∨n≤l.getD j 0):cK n l=false:=by
  unfold cK;rw[all_no 0 hj,Bool.and_false]
  rcases h with h | h
  · rw[decide_eq_false om];rfl
  · rw[decide_eq_false (show ¬ l.getD j 0<n by omega),Bool.and_false]
theorem cellsL_any {n:Int} {l:List Int} (h:(l.any fun c=> !(decide (0≤c)&&decide (c<n)))=true):cK n l=false:=by
  rw[dJ] at h
  unfold cK
  cases hh:l.all (fun c=>decide (0≤c)&&decide (c<n)) with
  | true=>rw[hh] at h;cases h
  | false=>rw[Bool.and_false]
theorem cellsL_none {n:Int} {l:List Int} (h1:l.length≤1000) (h:(l.any fun c=> !(decide (0≤c)&&decide (c<n)))=false):cK n l=true:=by
  rw[dJ] at h
  unfold cK;rw[decide_eq_true h1,Bool.true_and]
  simpa using h
theorem eR {α:Type} {q:α→Bool} {l:List α} (h:(l.any fun x=> !q x)=false):l.all q=true:=by rw[dJ] at h;simpa using h
theorem any_true_all {α:Type} {q:α→Bool} {l:List α} (h:(l.any fun x=> !q x)=true):l.all q=false:=by rw[dJ] at h;simpa using h
def markP (l:List Int) (n:Int) (k:Nat) (tk:List Bool):Prop:=(tk.length:Int)=n∧(l.take k).Nodup∧∀ c:Nat,(c:Int)<n→(tk.getD c false=true↔(c:Int) ∈ l.take k)
theorem mark_zero {l:List Int} {n:Int} (h:0≤n):markP l n 0 (List.replicate n.toNat false):=by
  refine⟨by rw[List.length_replicate];omega,by simp,fun c hc=>?_⟩
  have e:(List.replicate n.toNat false).getD c false=false:=by rw[List.getD_eq_getElem?_getD,List.getElem?_replicate];split<;>rfl
  rw[e];simp
theorem tk_snoc {l:List Int} {k:Nat} (hk:k<l.length):l.take (k+1)=l.take k++[l.getD k 0]:=by
  rw[List.take_add_one,List.getD_eq_getElem?_getD,List.getElem?_eq_getElem hk];rfl
theorem mark_step {l:List Int} {n:Int} {k:Nat} {tk:List Bool} (h:markP l n k tk) (hk:k<l.length) (hc:0≤l.getD k 0∧l.getD k 0<n) (hn:tk.getD (l.getD k 0).toNat false=false):markP l n (k+1) (tk.set (l.getD k 0).toNat true):=by
  obtain ⟨h1,h2,h3⟩:=h
  have hni:l.getD k 0 ∉ l.take k:=by
    intro hm
    have:=(h3 (l.getD k 0).toNat om).2 (by rw[Int.toNat_of_nonneg hc.1];exact hm)
    rw[hn] at this;cases this
  refine⟨by rw[List.length_set];exact h1,?_,fun c hcn=>?_⟩
  · rw[tk_snoc hk,List.nodup_append]
    refine⟨h2,by simp,fun a ha b hb=>?_⟩
    rw[List.mem_singleton] at hb
    intro e;subst e;subst hb;exact hni ha
  · rw[tk_snoc hk,List.mem_append,List.mem_singleton,List.getD_eq_getElem?_getD,List.getElem?_set]
    by_cases e:(l.getD k 0).toNat=c
    · rw[if_pos e,if_pos om]
      constructor
      · intro _;right;omega
      · intro _;rfl
    · rw[if_neg e,← List.getD_eq_getElem?_getD,h3 c hcn]
      constructor
      · intro h;exact .inl h
      · intro h
        rcases h with h | h
        · exact h
        · exact absurd om e
theorem mark_end {l:List Int} {n:Int} {tk:List Bool} {k:Nat} (h:markP l n k tk) (hk:l.length≤k):l.Nodup:=by
  have:=h.2.1
  rw[List.take_of_length_le hk] at this;exact this
theorem mark_twice {l:List Int} {n:Int} {k:Nat} {tk:List Bool} (h:markP l n k tk) (hk:k<l.length) (hc:0≤l.getD k 0∧l.getD k 0<n) (hn:tk.getD (l.getD k 0).toNat false=true):¬ l.Nodup:=by
  have hm:=(h.2.2 (l.getD k 0).toNat om).1 hn
  rw[Int.toNat_of_nonneg hc.1] at hm
  intro hnd
  have h2:(l.take (k+1)).Nodup:=List.Nodup.sublist (List.take_sublist _ _) hnd
  rw[tk_snoc hk,List.nodup_append] at h2
  exact h2.2.2 _ hm _ (List.mem_singleton.2 rfl) rfl
theorem getD_two {a b:List Int} {n:Int} {j:Nat} (ha:∀ j,j<a.length→0≤a.getD j 0∧a.getD j 0<n) (hb:∀ j,j<b.length→0≤b.getD j 0∧b.getD j 0<n) (hj:j<(a++b).length):0≤(a++b).getD j 0∧(a++b).getD j 0<n:=by
  rw[List.length_append] at hj
  rw[List.getD_eq_getElem?_getD]
  by_cases h:j<a.length
  · rw[List.getElem?_append_left h,← List.getD_eq_getElem?_getD];exact ha j h
  · rw[List.getElem?_append_right om,← List.getD_eq_getElem?_getD];exact hb _ om
theorem code_at {p:Prg} (h:dz p=true) {j:Nat} (hj:j<p.aC.length):cT p (p.aC.getD j bq)=true:=(cN bq).1 (dR h).2.2.2.2.1 j hj
theorem fits_form {p:Prg} {i:Ins} (h:cT p i=true):dh i=true∧cv p i=true:=by unfold cT at h;rw[Bool.and_eq_true] at h;exact h

def sameR (x y l m:List Int):Bool:=(x==y)&&(l==m)
theorem sameR_refl (x l:List Int):sameR x x l l=true:=by unfold sameR;rw[beq_self_eq_true,beq_self_eq_true];rfl
theorem sameR_no {x y l m:List Int} (h:(x==y)=false∨l.length≠m.length∨∃ j,l.getD j 0≠m.getD j 0):sameR x y l m=false:=by
  unfold sameR
  rcases h with h | h | ⟨j,h⟩
  · rw[h];rfl
  · rw[show(l==m)=false from beq_eq_false_iff_ne.2 (fun e=>h (by rw[e])),Bool.and_false]
  · rw[show(l==m)=false from beq_eq_false_iff_ne.2 (fun e=>h (by rw[e])),Bool.and_false]
def bigM (m:Mp):Bool:=decide ((m.aS:Int)>40)||decide ((m.bH:Int)>40)||decide ((m.dL:Int)>40)
def bigC (c:Crv):Bool:=decide ((c.aS:Int)>100)
theorem dM {p:Prg} {op k:Int}:tyOK p op k=true↔k/16384<(p.al:Int)∧(op=9∨op=10∨k/128%128<(p.al:Int))∧(op=13∨op=14∨k%128<(p.al:Int)):=by unfold tyOK;exact decide_eq_true_iff
theorem ty_no {p:Prg} {op k:Int} (h:tyOK p op k=false):tyA p op k=fx0∧tyB p op k=fx0∧tyC p op k=fx0:=by unfold tyA tyB tyC;rw[h];exact⟨rfl,rfl,rfl⟩
theorem ty_yes {p:Prg} {op k:Int} (h:tyOK p op k=true):tyA p op k=tyN p (k/16384)∧tyB p op k=(if op≠9∧op≠10 then tyN p (k/128%128) else fx0)∧tyC p op k=(if op≠13∧op≠14 then tyN p (k%128) else fx0):=by
  unfold tyA tyB tyC;rw[h]
  refine⟨rfl,?_,?_⟩
  · by_cases e:op≠9∧op≠10
    · rw[if_pos e,decide_eq_true e];rfl
    · rw[if_neg e,decide_eq_false e];rfl
  · by_cases e:op≠13∧op≠14
    · rw[if_pos e,decide_eq_true e];rfl
    · rw[if_neg e,decide_eq_false e];rfl
theorem tyN_q {w:World} {p:Prg} {k:Int} (h:∀ y ∈ p.ap,cE w y):cE w (tyN p k):=by
  unfold tyN
  by_cases e:k.toNat<p.ap.length
  · exact aX h _ e
  · rw[List.getD_eq_getElem?_getD,List.getElem?_eq_none om];exact⟨dE,dE,dE,dE,dE,dE,dE,dE,dE,trivial⟩
theorem fx0_q (w:World):cE w fx0:=⟨dE,dE,dE,dE,dE,dE,dE,dE,dE,trivial⟩
theorem ty_q {w:World} {p:Prg} {op k:Int} (h:∀ y ∈ p.ap,cE w y):cE w (tyA p op k)∧cE w (tyB p op k)∧cE w (tyC p op k):=by
  unfold tyA tyB tyC
  refine⟨?_,?_,?_⟩<;>split<;>first | exact tyN_q h | exact fx0_q w

abbrev fuC (t:Fxd):List Value:=[iv t.ah,iv t.ae,iv t.ag,iv t.aj,iv t.ai]
abbrev fuA (t:Fxd):Array Value:=#[iv t.ah,iv t.ae,iv t.ag,iv t.aj,iv t.ai]
end Go.Proofs.YtaoolgcddapegaaGreatDoor
