/- Walks of functions of this seat, printed by a program over the engine. Conditions: as each theorem says. -/
import Derived.Test.YtdneanhkcnfgdaaGreatDoorZtC2
import Derived.Test.YtdneanhkcnfgdaaGreatDoorZtEng10
set_option linter.unusedSimpArgs false
set_option linter.unusedVariables false
namespace Go.Proofs.YtdneanhkcnfgdaaGreatDoor
open Go.Eng Go.RowKit
structure Tk where
  az:Int
  ag:ByteArray
  ae:Int
  ac:Int
def tkE (x:Tk):List Value:=[.int .i64 x.az,.string x.ag,.int .i64 x.ae,.int .i64 x.ac]
abbrev tk0:Tk:=⟨0,ByteArray.empty,0,0⟩
def pU (c:UInt8):Bool:=aG (c.toNat:Int)
def tkOf (cur:List UInt8) (ln col:Int):List Tk:=if cur=[] then [] else [⟨0,⟨cur.toArray⟩,ln,col-(cur.length:Int)⟩]
def cma (ln col:Int):Tk:=⟨0,⟨#[44]⟩,ln,col⟩
def cg:List UInt8→List UInt8→Int→Int→List Tk
  | [],cur,ln,col=>tkOf cur ln col
  | c::r,cur,ln,col =>
    if pU c then cg r (cur++[c]) ln (col+1)
    else if c=44 then tkOf cur ln col++cma ln col::cg r [] ln (col+1)
    else tkOf cur ln col++cg r [] ln (col+1)
def cI (l:List Tk) (x:List (List Tk)):List (List Tk):=if l=[] then x else l::x
def wdsC:List UInt8→List UInt8→List Tk→Int→Int→List (List Tk)
  | [],cur,l,ln,col=>cI (l++tkOf cur ln col) []
  | c::r,cur,l,ln,col =>
    if c=10 then cI (l++tkOf cur ln col) (wdsC r [] [] (ln+1) 1)
    else if pU c then wdsC r (cur++[c]) l ln (col+1)
    else if c=44 then wdsC r [] (l++tkOf cur ln col++[cma ln col]) ln (col+1)
    else wdsC r [] (l++tkOf cur ln col) ln (col+1)
def bW:List (List UInt8)→Int→List (List Tk)
  | [],_=>[]
  | p::ps,ln=>cI (cg p [] ln 1) (bW ps (ln+1))
theorem wds_lines:∀ (r cur:List UInt8) (l:List Tk) (ln col:Int),
    wdsC r cur l ln col=match aF 10 r with | []=>[] | p::ps=>cI (l++cg p cur ln col) (bW ps (ln+1))
  | [],cur,l,ln,col=>rfl
  | c::r,cur,l,ln,col=>by
    have ih:=fun cur l ln col=>wds_lines r cur l ln col
    rw[wdsC,aF]
    by_cases h1:c=10
    · rw[if_pos h1,if_pos h1,ih [] [] (ln+1) 1]
      cases hs:aF 10 r with
      | nil=>exact absurd hs (cb 10 r)
      | cons p ps=>rfl
    · rw[if_neg h1,if_neg h1]
      cases hs:aF 10 r with
      | nil=>exact absurd hs (cb 10 r)
      | cons p ps =>
        show _=cI (l++cg (c::p) cur ln col) _
        rw[cg]
        by_cases h2:pU c=true
        · rw[if_pos h2,if_pos h2,ih,hs]
        · rw[if_neg h2,if_neg h2]
          by_cases h3:c=44
          · rw[if_pos h3,if_pos h3,ih,hs]
            show cI (l++tkOf cur ln col++[cma ln col]++cg p [] ln (col+1)) _=_
            rw[List.append_assoc,List.append_assoc];rfl
          · rw[if_neg h3,if_neg h3,ih,hs]
            show cI (l++tkOf cur ln col++cg p [] ln (col+1)) _=_
            rw[List.append_assoc]
theorem wds_text (r:List UInt8):wdsC r [] [] 1 1=bW (aF 10 r) 1:=by
  rw[wds_lines r [] [] 1 1]
  cases hs:aF 10 r with
  | nil=>exact absurd hs (cb 10 r)
  | cons p ps=>rfl
def okC (c:UInt8):Bool:=pU c||c==44||c==32
def badC:List UInt8→Int→Int→Option (Int×Int)
  | [],_,_=>none
  | c::r,ln,col=>if c=10 then badC r (ln+1) 1 else if okC c then badC r ln (col+1) else some (ln,col)
def badL:List UInt8→Int→Int→Option (Int×Int)
  | [],_,_=>none
  | c::r,ln,col=>if okC c then badL r ln (col+1) else some (ln,col)
def badS:List (List UInt8)→Int→Option (Int×Int)
  | [],_=>none
  | p::ps,ln=>match badL p ln 1 with | some x=>some x | none=>badS ps (ln+1)
theorem bad_lines:∀ (r:List UInt8) (ln col:Int),badC r ln col=match aF 10 r with | []=>none | p::ps=>(match badL p ln col with | some x=>some x | none=>badS ps (ln+1))
  | [],ln,col=>rfl
  | c::r,ln,col=>by
    have ih:=fun ln col=>bad_lines r ln col
    rw[badC,aF]
    by_cases h1:c=10
    · rw[if_pos h1,if_pos h1,ih (ln+1) 1]
      cases hs:aF 10 r with
      | nil=>exact absurd hs (cb 10 r)
      | cons p ps=>rfl
    · rw[if_neg h1,if_neg h1]
      cases hs:aF 10 r with
      | nil=>exact absurd hs (cb 10 r)
      | cons p ps =>
        show _=match badL (c::p) ln col with | some x=>some x | none=>badS ps (ln+1)
        rw[badL]
        by_cases h2:okC c=true
        · rw[if_pos h2,if_pos h2,ih,hs]
        · rw[if_neg h2,if_neg h2]
theorem bad_text (r:List UInt8):badC r 1 1=badS (aF 10 r) 1:=by
  rw[bad_lines r 1 1]
  cases hs:aF 10 r with
  | nil=>exact absurd hs (cb 10 r)
  | cons p ps=>rfl
def badT (s:ByteArray):Option (Int×Int):=badS (aF 10 (ls s)) 1
def okT (s:ByteArray):Bool:=(badT s).isNone
def blT (s:ByteArray):Int:=match badT s with | some x=>x.1 | none=>0
def bcT (s:ByteArray):Int:=match badT s with | some x=>x.2 | none=>0
theorem okT_no {s:ByteArray} {l c:Int} (h:badT s=some (l,c)):okT s=false∧blT s=l∧bcT s=c:=by
  unfold okT blT bcT;rw[h];exact⟨rfl,rfl,rfl⟩
theorem okT_yes {s:ByteArray} (h:badT s=none):okT s=true∧blT s=0∧bcT s=0:=by
  unfold okT blT bcT;rw[h];exact⟨rfl,rfl,rfl⟩
theorem cj {s:ByteArray} {i:Int} (h0:0≤i) (hi:i<(s.size:Int)):(ls s).drop i.toNat=(ls s).getD i.toNat 0::(ls s).drop (i+1).toNat:=by
  have hl:=bf s
  rw[show(i+1).toNat=i.toNat+1 by omega,List.getD_eq_getElem?_getD,List.getElem?_eq_getElem om]
  exact List.drop_eq_getElem_cons om
theorem drop_end {s:ByteArray} {i:Int} (hi:(s.size:Int)≤i):(ls s).drop i.toNat=[]:=by
  have hl:=bf s
  exact List.drop_eq_nil_of_le om
theorem ck {s:ByteArray} {i:Nat} {k:Nat} (hk:k<256):(ls s).getD i 0=UInt8.ofNat k↔aA s i=k:=by
  rw[byteAt_ls]
  constructor
  · intro e;rw[e,UInt8.toNat_ofNat'];omega
  · intro e;apply UInt8.toNat_inj.1;rw[UInt8.toNat_ofNat'];omega
theorem pU_at (s:ByteArray) (i:Nat):pU ((ls s).getD i 0)=aG (aA s i):=by rw[byteAt_ls];rfl
theorem ext_self (s:ByteArray) (i:Nat):ls (s.extract i i)=[]:=by
  rw[ls_extract];exact List.drop_eq_nil_of_le (by rw[List.length_take];omega)
theorem ext_step {s:ByteArray} {i k:Int} (h0:0≤i) (hk:i≤k) (hs:k<(s.size:Int)):ls (s.extract i.toNat (k+1).toNat)=ls (s.extract i.toNat k.toNat)++[(ls s).getD k.toNat 0]:=by
  have hl:=bf s
  rw[ls_extract,ls_extract,show(k+1).toNat=k.toNat+1 by omega,List.take_succ_eq_append_getElem om,List.drop_append_of_le_length (by rw[List.length_take];omega),List.getD_eq_getElem?_getD,List.getElem?_eq_getElem om];try rfl
theorem ext_len {s:ByteArray} {i k:Int} (h0:0≤i) (hk:i≤k) (hs:k≤(s.size:Int)):((ls (s.extract i.toNat k.toNat)).length:Int)=k-i:=by
  rw[bf,size_extract s om];omega
theorem tk_some {s:ByteArray} {i k ln col:Int} (h0:0≤i) (hk:i<k) (hs:k≤(s.size:Int)):tkOf (ls (s.extract i.toNat k.toNat)) ln col=[⟨0,s.extract i.toNat k.toNat,ln,col-(k-i)⟩]:=by
  have hl:=ext_len h0 (Int.le_of_lt hk) hs
  unfold tkOf
  rw[if_neg (fun e=>by rw[e] at hl;simp at hl;omega),hl]
theorem tk_nil (ln col:Int):tkOf [] ln col=[]:=rfl
theorem lc_in {s:ByteArray} {i k ln:Int} (h0:0≤i) (hk:i≤k) (hs:k<(s.size:Int)) (hb:aG (aA s k.toNat)=true):cg ((ls s).drop k.toNat) (ls (s.extract i.toNat k.toNat)) ln (k+1)=cg ((ls s).drop (k+1).toNat) (ls (s.extract i.toNat (k+1).toNat)) ln (k+1+1):=by
  rw[cj om hs,cg,if_pos ((pU_at s k.toNat).trans hb),ext_step h0 hk hs]
theorem lc_out {s:ByteArray} {cur:List UInt8} {k ln:Int} (h0:0≤k) (hs:k≤(s.size:Int)) (hb:k<(s.size:Int)→aG (aA s k.toNat)=false):cg ((ls s).drop k.toNat) cur ln (k+1)=tkOf cur ln (k+1)++cg ((ls s).drop k.toNat) [] ln (k+1):=by
  by_cases h:k<(s.size:Int)
  · have hp:¬ pU ((ls s).getD k.toNat 0)=true:=by rw[pU_at,hb h];decide
    rw[cj om h,cg,cg,if_neg hp,if_neg hp]
    split<;>rw[tk_nil]<;>rfl
  · rw[drop_end om];show _=_++tkOf [] _ _;rw[tk_nil,List.append_nil];rfl
section
variable {s:ByteArray} {W out:List Tk} {i k ln:Int}
theorem lc_start (h:W=out++cg ((ls s).drop i.toNat) [] ln (i+1)):W=out++cg ((ls s).drop i.toNat) (ls (s.extract i.toNat i.toNat)) ln (i+1):=by rw[ext_self];exact h
theorem lc_step (h:W=out++cg ((ls s).drop k.toNat) (ls (s.extract i.toNat k.toNat)) ln (k+1)) (h0:0≤i) (hk:i≤k) (hs:k<(s.size:Int)) (hb:aG (aA s k.toNat)=true):W=out++cg ((ls s).drop (k+1).toNat) (ls (s.extract i.toNat (k+1).toNat)) ln (k+1+1):=by rw[h,lc_in h0 hk hs hb]
theorem lc_word (h:W=out++cg ((ls s).drop k.toNat) (ls (s.extract i.toNat k.toNat)) ln (k+1)) (h0:0≤i) (hk:i<k) (hs:k≤(s.size:Int)) (hb:k<(s.size:Int)→aG (aA s k.toNat)=false):W=(out++[⟨0,s.extract i.toNat k.toNat,ln,i+1⟩])++cg ((ls s).drop k.toNat) [] ln (k+1):=by
  rw[h,lc_out om hs hb,tk_some h0 hk hs,List.append_assoc];congr 4;omega
theorem lc_comma (h:W=out++cg ((ls s).drop i.toNat) [] ln (i+1)) (h0:0≤i) (hs:i<(s.size:Int)) (hb:aA s i.toNat=44):W=(out++[(⟨0,⟨#[44]⟩,ln,i+1⟩:Tk)])++cg ((ls s).drop (i+1).toNat) [] ln (i+1+1):=by
  rw[h,cj h0 hs,cg,if_neg (by rw[pU_at,hb];decide),if_pos (show(ls s).getD i.toNat 0=44 from (ck (k:=44) om).2 hb),tk_nil,List.append_assoc];rfl
theorem lc_blank (h:W=out++cg ((ls s).drop i.toNat) [] ln (i+1)) (h0:0≤i) (hs:i<(s.size:Int)) (hb:aA s i.toNat=32):W=out++cg ((ls s).drop (i+1).toNat) [] ln (i+1+1):=by
  rw[h,cj h0 hs,cg,if_neg (by rw[pU_at,hb];decide),if_neg (fun e:(ls s).getD i.toNat 0=44=>by have:=(ck (k:=44) om).1 e;omega),tk_nil];rfl
theorem lc_done (h:W=out++cg ((ls s).drop i.toNat) [] ln (i+1)) (hi:(s.size:Int)≤i):W=out:=by
  rw[h,drop_end hi];show _++tkOf [] _ _=_;rw[tk_nil,List.append_nil]
end
theorem okC_at {s:ByteArray} {i:Nat}:okC ((ls s).getD i 0)=(aG (aA s i)||decide (aA s i=44)||decide (aA s i=32)):=by
  unfold okC;rw[pU_at];congr 1
  · congr 1;rw[Bool.eq_iff_iff,beq_iff_eq,decide_eq_true_iff];exact ck (k:=44) om
  · rw[Bool.eq_iff_iff,beq_iff_eq,decide_eq_true_iff];exact ck (k:=32) om
section
variable {s:ByteArray} {i k ln:Int} {B:Option (Int×Int)}
theorem bl_word (h:B=badL ((ls s).drop k.toNat) ln (k+1)) (h0:0≤k) (hs:k<(s.size:Int)) (hb:aG (aA s k.toNat)=true∨aA s k.toNat=44∨aA s k.toNat=32):B=badL ((ls s).drop (k+1).toNat) ln (k+1+1):=by
  rw[h,cj h0 hs,badL,if_pos]
  rw[okC_at];rcases hb with hb | hb | hb<;>simp[hb]
theorem bl_bad (h:B=badL ((ls s).drop k.toNat) ln (k+1)) (h0:0≤k) (hs:k<(s.size:Int)) (h1:aG (aA s k.toNat)=false) (h2:aA s k.toNat≠44) (h3:aA s k.toNat≠32):B=some (ln,k+1):=by
  rw[h,cj h0 hs,badL,if_neg]
  rw[okC_at,h1];simp[h2,h3]
theorem bl_done (h:B=badL ((ls s).drop i.toNat) ln (i+1)) (hi:(s.size:Int)≤i):B=none:=by rw[h,drop_end hi];rfl
end

end Go.Proofs.YtdneanhkcnfgdaaGreatDoor

namespace Go.Proofs.YtdneanhkcnfgdaaGreatDoor
open Go.Eng Go.RowKit
structure Ln where
  gS_a:Option Addr
  gS_n:Nat
  gS_c:Nat
  bS:List Tk
def lnE (x:Ln):List Value:=[.slice x.gS_a x.gS_n x.gS_c]
def tlF (out:List Ln):List Eng.Claim:=out.reverse.map fun x=>aa tkE x.gS_a x.gS_c 91 4 x.bS
theorem tlF_snoc (out:List Ln) (x:Ln):tlF (out++[x])=aa tkE x.gS_a x.gS_c 91 4 x.bS::tlF out:=by
  unfold tlF;rw[List.reverse_append];rfl
theorem Sep.swap {w0 w:World} {A B:List Eng.Claim} (S:Sep w0 (A++B) w):Sep w0 (B++A) w :=
  ⟨S.below,fun c hc=>S.all c (List.perm_append_comm.mem_iff.1 hc),fun c hc=>S.fresh c (List.perm_append_comm.mem_iff.1 hc),(List.perm_append_comm.pairwise_iff (fun h b hb hb2=>h b hb2 hb)).1 S.apart⟩
theorem cons_yes {l:List Tk} {X:List (List Tk)} (h:0<l.length):cI l X=l::X:=by unfold cI;rw[if_neg (fun e=>by rw[e] at h;exact absurd h dE)]
theorem cons_no {l:List Tk} {X:List (List Tk)} (h:¬ 0<l.length):cI l X=X:=by unfold cI;rw[if_pos (List.eq_nil_of_length_eq_zero om)]
theorem wr_add {W X:List (List Tk)} {out:List Ln} {l:List Tk} {x:Ln} (h:W=out.map (fun x=>x.bS)++cI l X) (hl:0<l.length) (hx:x.bS=l):W=(out++[x]).map (fun x=>x.bS)++X:=by
  rw[h,cons_yes hl,List.map_append,List.append_assoc];show _++(l::X)=_++([x.bS]++X);rw[hx];rfl
theorem wr_not {W X:List (List Tk)} {out:List Ln} {l:List Tk} (h:W=out.map (fun x=>x.bS)++cI l X) (hl:¬ 0<l.length):W=out.map (fun x=>x.bS)++X:=by rw[h,cons_no hl]
theorem wr_fin {W:List (List Tk)} {out:List Ln} (h:W=out.map (fun x=>x.bS)++[]):W=out.map (fun x=>x.bS):=by rw[h,List.append_nil]
theorem line_step {s x:ByteArray} {W:List (List Tk)} {M:List Ln} {l:List Tk} {i:Int} (h:W=M.map (fun x=>x.bS)++bW ((aF 10 (ls s)).drop i.toNat) (i+1)) (hx:ls x=(aF 10 (ls s)).getD i.toNat []) (h0:0≤i) (hi:i<((aF 10 (ls s)).length:Int)) (hl:cg (ls x) [] (i+1) 1=l) :
    W=M.map (fun x=>x.bS)++cI l (bW ((aF 10 (ls s)).drop (i+1).toNat) (i+1+1)):=by
  rw[h,List.drop_eq_getElem_cons (show i.toNat<(aF 10 (ls s)).length by omega),bW,show(i+1).toNat=i.toNat+1 by omega,← hl,hx,List.getD_eq_getElem?_getD,List.getElem?_eq_getElem (show i.toNat<(aF 10 (ls s)).length by omega)];rfl
theorem line_good {s x:ByteArray} {i:Int} (h:badT s=badS ((aF 10 (ls s)).drop i.toNat) (i+1)) (hx:ls x=(aF 10 (ls s)).getD i.toNat []) (h0:0≤i) (hi:i<((aF 10 (ls s)).length:Int)) (hl:badL (ls x) (i+1) 1=none) :
    badT s=badS ((aF 10 (ls s)).drop (i+1).toNat) (i+1+1):=by
  rw[h,List.drop_eq_getElem_cons (show i.toNat<(aF 10 (ls s)).length by omega),badS,show(i+1).toNat=i.toNat+1 by omega]
  rw[hx,List.getD_eq_getElem?_getD,List.getElem?_eq_getElem (show i.toNat<(aF 10 (ls s)).length by omega)] at hl
  rw[show(some (aF 10 (ls s))[i.toNat]).getD []=(aF 10 (ls s))[i.toNat] from rfl] at hl
  rw[hl]
theorem line_bad {s x:ByteArray} {i l c:Int} (h:badT s=badS ((aF 10 (ls s)).drop i.toNat) (i+1)) (hx:ls x=(aF 10 (ls s)).getD i.toNat []) (h0:0≤i) (hi:i<((aF 10 (ls s)).length:Int)) (hl:badL (ls x) (i+1) 1=some (l,c)) :
    badT s=some (l,c):=by
  rw[h,List.drop_eq_getElem_cons (show i.toNat<(aF 10 (ls s)).length by omega),badS]
  rw[hx,List.getD_eq_getElem?_getD,List.getElem?_eq_getElem (show i.toNat<(aF 10 (ls s)).length by omega)] at hl
  rw[show(some (aF 10 (ls s))[i.toNat]).getD []=(aF 10 (ls s))[i.toNat] from rfl] at hl
  rw[hl]
theorem lines_end {s:ByteArray} {i:Int} (h:badT s=badS ((aF 10 (ls s)).drop i.toNat) (i+1)) (hi:((aF 10 (ls s)).length:Int)≤i):badT s=none:=by
  rw[h,List.drop_eq_nil_of_le om];rfl
theorem lines_fin {s:ByteArray} {W:List (List Tk)} {M:List Ln} {i:Int} (h:W=M.map (fun x=>x.bS)++bW ((aF 10 (ls s)).drop i.toNat) (i+1)) (hi:((aF 10 (ls s)).length:Int)≤i):W=M.map (fun x=>x.bS):=by
  rw[h,List.drop_eq_nil_of_le om];exact List.append_nil _
section
variable {s:ByteArray} {W M:List (List Tk)} {i k ln col:Int} {l:List Tk}
theorem wl_line (h:W=M++wdsC ((ls s).drop i.toNat) [] l ln col) (h0:0≤i) (hi:i<(s.size:Int)) (hb:aA s i.toNat=10):W=M++cI l (wdsC ((ls s).drop (i+1).toNat) [] [] (ln+1) 1):=by
  rw[h,cj h0 hi,wdsC,if_pos (show(ls s).getD i.toNat 0=10 from (ck (k:=10) om).2 hb),tk_nil,List.append_nil]
theorem wl_stop (h:W=M++wdsC ((ls s).drop i.toNat) [] l ln col) (hi:(s.size:Int)≤i):W=M++cI l []:=by
  rw[h,drop_end hi];show M++cI (l++tkOf [] ln col) []=_;rw[tk_nil,List.append_nil]
theorem wl_blank (h:W=M++wdsC ((ls s).drop i.toNat) [] l ln col) (h0:0≤i) (hi:i<(s.size:Int)) (hb:aA s i.toNat=32):W=M++wdsC ((ls s).drop (i+1).toNat) [] l ln (col+1):=by
  rw[h,cj h0 hi,wdsC,if_neg (fun e:(ls s).getD i.toNat 0=10=>by have:=(ck (k:=10) om).1 e;omega),if_neg (by rw[pU_at,hb];decide),if_neg (fun e:(ls s).getD i.toNat 0=44=>by have:=(ck (k:=44) om).1 e;omega),tk_nil,List.append_nil]
theorem wl_comma (h:W=M++wdsC ((ls s).drop i.toNat) [] l ln col) (h0:0≤i) (hi:i<(s.size:Int)) (hb:aA s i.toNat=44):W=M++wdsC ((ls s).drop (i+1).toNat) [] (l++[(⟨0,⟨#[44]⟩,ln,col⟩:Tk)]) ln (col+1):=by
  rw[h,cj h0 hi,wdsC,if_neg (fun e:(ls s).getD i.toNat 0=10=>by have:=(ck (k:=10) om).1 e;omega),if_neg (by rw[pU_at,hb];decide),if_pos (show(ls s).getD i.toNat 0=44 from (ck (k:=44) om).2 hb),tk_nil,List.append_nil];rfl
theorem wl_start (h:W=M++wdsC ((ls s).drop i.toNat) [] l ln col):W=M++wdsC ((ls s).drop i.toNat) (ls (s.extract i.toNat i.toNat)) l ln (col+i-i):=by
  rw[ext_self,show col+i-i=col by omega];exact h
theorem wl_step (h:W=M++wdsC ((ls s).drop k.toNat) (ls (s.extract i.toNat k.toNat)) l ln (col+k-i)) (h0:0≤i) (hk:i≤k) (hs:k<(s.size:Int)) (hb:aG (aA s k.toNat)=true):W=M++wdsC ((ls s).drop (k+1).toNat) (ls (s.extract i.toNat (k+1).toNat)) l ln (col+(k+1)-i):=by
  rw[h,cj om hs,wdsC,if_neg (fun e:(ls s).getD k.toNat 0=10=>by have:=(ck (k:=10) om).1 e;rw[this] at hb;exact absurd hb dE),if_pos ((pU_at s k.toNat).trans hb),ext_step h0 hk hs,show col+k-i+1=col+(k+1)-i by omega]
theorem wl_word (h:W=M++wdsC ((ls s).drop k.toNat) (ls (s.extract i.toNat k.toNat)) l ln (col+k-i)) (h0:0≤i) (hk:i<k) (hs:k≤(s.size:Int)) (hb:k<(s.size:Int)→aG (aA s k.toNat)=false):W=M++wdsC ((ls s).drop k.toNat) [] (l++[⟨0,s.extract i.toNat k.toNat,ln,col⟩]) ln (col+k-i):=by
  have e:l++[(⟨0,s.extract i.toNat k.toNat,ln,col⟩:Tk)]=l++tkOf (ls (s.extract i.toNat k.toNat)) ln (col+k-i):=by
    rw[tk_some h0 hk hs];congr 3;omega
  rw[h,e]
  congr 1
  generalize ls (s.extract i.toNat k.toNat)=cur
  by_cases hlt:k<(s.size:Int)
  · rw[cj om hlt,wdsC,wdsC]
    by_cases h1:(ls s).getD k.toNat 0=10
    · rw[if_pos h1,if_pos h1,tk_nil,List.append_nil]
    · have hp:¬ pU ((ls s).getD k.toNat 0)=true:=by rw[pU_at,hb hlt];decide
      rw[if_neg h1,if_neg h1,if_neg hp,if_neg hp,tk_nil,List.append_nil]
  · rw[drop_end om];show cI _ []=cI _ [];rw[tk_nil,List.append_nil]
end
theorem wl_first (s:ByteArray):bW (aF 10 (ls s)) 1=([]:List Ln).map (fun x=>x.bS)++wdsC ((ls s).drop (0:Int).toNat) [] [] 1 1:=(wds_text (ls s)).symm
section
variable {s:ByteArray} {i k ln col:Int} {B:Option (Int×Int)}
theorem bc_line (h:B=badC ((ls s).drop i.toNat) ln col) (h0:0≤i) (hi:i<(s.size:Int)) (hb:aA s i.toNat=10):B=badC ((ls s).drop (i+1).toNat) (ln+1) 1:=by
  rw[h,cj h0 hi,badC,if_pos (show(ls s).getD i.toNat 0=10 from (ck (k:=10) om).2 hb)]
theorem bc_ok (h:B=badC ((ls s).drop k.toNat) ln col) (h0:0≤k) (hs:k<(s.size:Int)) (hb:aG (aA s k.toNat)=true∨aA s k.toNat=44∨aA s k.toNat=32):B=badC ((ls s).drop (k+1).toNat) ln (col+1):=by
  rw[h,cj h0 hs,badC,if_neg (fun e:(ls s).getD k.toNat 0=10=>by have:=(ck (k:=10) om).1 e;rcases hb with hb | hb | hb;(rw[this] at hb;exact absurd hb dE);omega;omega),if_pos]
  rw[okC_at];rcases hb with hb | hb | hb<;>simp[hb]
theorem bc_bad (h:B=badC ((ls s).drop k.toNat) ln col) (h0:0≤k) (hs:k<(s.size:Int)) (h1:aG (aA s k.toNat)=false) (h2:aA s k.toNat≠44) (h3:aA s k.toNat≠32) (h4:aA s k.toNat≠10):B=some (ln,col):=by
  rw[h,cj h0 hs,badC,if_neg (fun e:(ls s).getD k.toNat 0=10=>h4 ((ck (k:=10) om).1 e)),if_neg]
  rw[okC_at,h1];simp[h2,h3]
theorem bc_done (h:B=badC ((ls s).drop i.toNat) ln col) (hi:(s.size:Int)≤i):B=none:=by rw[h,drop_end hi];rfl
end
theorem bc_first (s:ByteArray):badT s=badC ((ls s).drop (0:Int).toNat) 1 1:=(bad_text (ls s)).symm

inductive Pz where
  | ok (k:Int)
  | no (e l c:Int)
def tx (L:List Tk) (k:Int):ByteArray:=(L.getD k.toNat tk0).ag
def lnA (L:List Tk) (k:Int):Int:=(L.getD k.toNat tk0).ae
def clA (L:List Tk) (k:Int):Int:=(L.getD k.toNat tk0).ac
def noA (L:List Tk) (e k:Int):Pz:=.no e (lnA L k) (clA L k)
def enA (L:List Tk):Pz:=noA L 4 ((L.length:Int)-1)
def Rz (X:Pz) (e a l c:Int):Prop:=match X with | .ok k=>e=0∧a=k∧l=0∧c=0 | .no x y z=>e=x∧x≠0∧l=y∧c=z
def isZ:Pz→Bool | .ok _=>true | .no _ _ _=>false
def atZ:Pz→Int | .ok k=>k | .no _ _ _=>0
def wdZ (L:List Tk) (w:ByteArray):Pz→Pz | .ok k=>if k<(L.length:Int) then (if eqT (tx L k) w then .ok (k+1) else noA L 3 k) else enA L | x=>x
def mrB (L:List Tk) (w:ByteArray):Pz→Bool | .ok k=>decide (k<(L.length:Int))&&eqT (tx L k) w | _=>false
def skZ:Pz→Pz | .ok k=>.ok (k+1) | x=>x
def mrZ (L:List Tk) (w:ByteArray) (X:Pz):Pz:=if mrB L w X then skZ X else X
def edZ (L:List Tk):Pz→Pz | .ok k=>if k<(L.length:Int) then noA L 3 k else .ok k | x=>x
def ixN (L:List Tk) (l:List ByteArray) (k:Int):Int:=ap (eqT (tx L k)) l
def elZ (L:List Tk) (l:List ByteArray):Pz→Pz | .ok k=>if k<(L.length:Int) then (if aV (tx L k) then (if ixN L l k<0 then noA L 7 k else .ok (k+1)) else noA L 3 k) else enA L | x=>x
def elV (L:List Tk) (l:List ByteArray):Pz→Int | .ok k=>max (ixN L l k) 0 | _=>0
def nuZ (L:List Tk):Pz→Pz | .ok k=>if k<(L.length:Int) then (if bN (ls (tx L k)) then (if (cx (ls (tx L k)):Int)≤1000 then .ok (k+1) else noA L 2 k) else noA L 3 k) else enA L | x=>x
def nuV (L:List Tk):Pz→Int | .ok k=>(cx (ls (tx L k)):Int) | _=>0
def wComma:ByteArray:=⟨#[44]⟩
def wStates:ByteArray:=⟨#[115,116,97,116,101,115]⟩
def cy:ByteArray:=⟨#[105,110,112,117,116,115]⟩
def wStart:ByteArray:=⟨#[115,116,97,114,116]⟩
def wTo:ByteArray:=⟨#[116,111]⟩
def wIf:ByteArray:=⟨#[105,102]⟩
def wNot:ByteArray:=⟨#[110,111,116]⟩
def cD:ByteArray:=⟨#[97,102,116,101,114]⟩
def lsF (L:List Tk) (most k:Int) (out:List ByteArray):Pz×List ByteArray :=
  if _h:k<(L.length:Int) then
    if aV (tx L k) then
      if (out.length:Int)=most then (noA L 5 k,[])
      else if out.any (eqT (tx L k)) then (noA L 8 k,[])
      else if mrB L wComma (.ok (k+1)) then lsF L most (k+2) (out++[tx L k])
      else (edZ L (.ok (k+1)),out++[tx L k])
    else (noA L 3 k,[])
  else (enA L,[])
  termination_by ((L.length:Int)-k).toNat
  decreasing_by omega
def lsZ (L:List Tk) (most:Int):Pz→Pz | .ok k=>(lsF L most k []).1 | x=>x
def lsV (L:List Tk) (most:Int):Pz→List ByteArray | .ok k=>(lsF L most k []).2 | _=>[]
def orF (x y:Int):Int:=IntKind.wrap .i64 ((BitVec.ofInt 64 x ||| BitVec.ofInt 64 y).toNat:Int)
def shF (i:Int):Int:=IntKind.wrap .i64 (1*2^(min i.toNat 64))
def bitF (x i:Int):Bool:=(Int.fdiv x (2^(min i.toNat 64)))%2==1
def k1 (L:List Tk) (k:Int):Int:=if mrB L wNot (.ok k) then k+1 else k
theorem k1_ge (L:List Tk) (k:Int):k≤k1 L k∧k1 L k≤k+1:=by unfold k1;split<;>omega
structure Cz where
  z:Pz
  on:Int
  off:Int
def cdF (L:List Tk) (ins:List ByteArray) (k on off:Int):Cz :=
  if _h:k1 L k<(L.length:Int) then
    if aV (tx L (k1 L k)) then
      if ixN L ins (k1 L k)<0 then ⟨noA L 7 (k1 L k),0,0⟩
      else if bitF (orF on off) (ixN L ins (k1 L k)) then ⟨noA L 8 (k1 L k),0,0⟩
      else if mrB L wComma (.ok (k1 L k+1)) then cdF L ins (k1 L k+2) (if mrB L wNot (.ok k) then on else orF on (shF (ixN L ins (k1 L k)))) (if mrB L wNot (.ok k) then orF off (shF (ixN L ins (k1 L k))) else off)
      else ⟨.ok (k1 L k+1),(if mrB L wNot (.ok k) then on else orF on (shF (ixN L ins (k1 L k)))),(if mrB L wNot (.ok k) then orF off (shF (ixN L ins (k1 L k))) else off)⟩
    else ⟨noA L 3 (k1 L k),0,0⟩
  else ⟨enA L,0,0⟩
  termination_by ((L.length:Int)-k).toNat
  decreasing_by have:=k1_ge L k;omega
def cdZ (L:List Tk) (ins:List ByteArray) (X:Pz):Cz:=if mrB L wIf X then cdF L ins (atZ X+1) 0 0 else ⟨X,0,0⟩
def afZ (L:List Tk) (X:Pz):Pz:=if mrB L cD X then nuZ L (skZ X) else X
def afV (L:List Tk) (X:Pz):Int:=if mrB L cD X then nuV L (skZ X) else 0
def mvS (L:List Tk) (full:Bool):Pz:=if full&&aV (tx L 0) then noA L 5 0 else .ok 0
def mv1 (L:List Tk) (sts:List ByteArray) (full:Bool):Pz:=wdZ L wTo (elZ L sts (mvS L full))
def mv2 (L:List Tk) (sts:List ByteArray) (full:Bool):Pz:=elZ L sts (mv1 L sts full)
def mvZ (L:List Tk) (sts ins:List ByteArray) (full:Bool):Pz:=edZ L (afZ L (cdZ L ins (mv2 L sts full)).z)
def mvV (L:List Tk) (sts ins:List ByteArray) (full:Bool):Mv :=
  ⟨elV L sts (mvS L full),elV L sts (mv1 L sts full),(cdZ L ins (mv2 L sts full)).on,(cdZ L ins (mv2 L sts full)).off,afV L (cdZ L ins (mv2 L sts full)).z⟩
structure Ct where
  sts:List ByteArray
  ins:List ByteArray
  st:Int
  mvs:List Mv
  pl:Int
  pc:Int
  e:Int
def noC (X:Pz):Ct:=match X with | .no e l c=>⟨[],[],0,[],l,c,e⟩ | .ok _=>⟨[],[],0,[],0,0,0⟩
def stZ (L:List Tk) (sts:List ByteArray):Pz:=edZ L (elZ L sts (wdZ L wStart (.ok 0)))
def paG:List (List Tk)→Int→List ByteArray→List ByteArray→Int→List Mv→Ct
  | [],part,sts,ins,st,mvs=>if part<3 then ⟨[],[],0,[],0,0,4⟩ else ⟨sts,ins,st,mvs,0,0,0⟩
  | L::X,part,sts,ins,st,mvs =>
    if part=0 then
      let Z:=lsZ L 20 (wdZ L wStates (.ok 0))
      if isZ Z then paG X 1 (lsV L 20 (wdZ L wStates (.ok 0))) ins st mvs else noC Z
    else if part=1∧mrB L cy (.ok 0)=true then
      let Z:=lsZ L 10 (.ok 1)
      if isZ Z then paG X 2 sts (lsV L 10 (.ok 1)) st mvs else noC Z
    else if part<3 then
      let Z:=stZ L sts
      if isZ Z then paG X 3 sts ins (elV L sts (wdZ L wStart (.ok 0))) mvs else noC Z
    else
      let Z:=mvZ L sts ins (decide (mvs.length=100))
      if isZ Z then paG X 3 sts ins st (mvs++[mvV L sts ins (decide (mvs.length=100))]) else noC Z
def paF (s:ByteArray):Ct :=
  if (16384:Int)<s.size then ⟨[],[],0,[],0,0,5⟩
  else if okT s then paG (bW (aF 10 (ls s)) 1) 0 [] [] 0 [] else ⟨[],[],0,[],blT s,bcT s,3⟩

theorem sep_perm {w0 w:World} {L L':List Eng.Claim} (S:Sep w0 L w) (h:L.Perm L'):Sep w0 L' w :=
  ⟨S.below,fun c hc=>S.all c (h.mem_iff.2 hc),fun c hc=>S.fresh c (h.mem_iff.2 hc),(h.pairwise_iff (fun h b hb hb2=>h b hb2 hb)).1 S.apart⟩
theorem bB {k:Int}:Rz (.ok k) 0 k 0 0:=⟨rfl,rfl,rfl,rfl⟩
theorem rz_no {e l c a:Int} (h:e≠0):Rz (.no e l c) e a l c:=⟨rfl,h,rfl,rfl⟩
theorem aP {X Y:Pz} {e a l c:Int} (h:X=Y) (hz:Rz Y e a l c):Rz X e a l c:=h▸hz
theorem bp {L:List Tk} {e k a:Int} (h:e≠0):Rz (noA L e k) e a (lnA L k) (clA L k):=⟨rfl,h,rfl,rfl⟩
theorem rz_en {L:List Tk} {a k:Int} (h:k=(L.length:Int)-1):Rz (enA L) 4 a (lnA L k) (clA L k):=by subst h;exact⟨rfl,dE,rfl,rfl⟩
theorem rz_isno {X:Pz} {e a l c:Int} (hz:Rz X e a l c) (h:e≠0):X=.no e l c:=by
  cases X with
  | ok k=>exact absurd hz.1 h
  | no x y z=>obtain ⟨h1,_,h3,h4⟩:=hz;rw[h1,h3,h4]
theorem isZ_iff {X:Pz} {e a l c:Int} (hz:Rz X e a l c):isZ X=true↔e=0:=by
  cases X with
  | ok k=>exact⟨fun _=>hz.1,fun _=>rfl⟩
  | no x y z=>exact⟨fun h=>(by cases h),fun h=>absurd (hz.1.symm.trans h) hz.2.1⟩
theorem nbT {b:Bool} (h:(!b)=true):b=false:=by cases b;rfl;cases h
theorem nbF {b:Bool} (h:(!b)=false):b=true:=by cases b;cases h;rfl
section
variable {L:List Tk} {w:ByteArray} {l:List ByteArray} {k a e y z:Int}
theorem wd_hit (h:k<(L.length:Int)) (h2:eqT (tx L k) w=true):wdZ L w (.ok k)=.ok (k+1):=(if_pos h).trans (if_pos h2)
theorem wd_miss (h:k<(L.length:Int)) (h2:eqT (tx L k) w=false):wdZ L w (.ok k)=noA L 3 k:=(if_pos h).trans (if_neg (by rw[h2];decide))
theorem wd_end (h:¬ k<(L.length:Int)):wdZ L w (.ok k)=enA L:=if_neg h
theorem el_in (h:k<(L.length:Int)) (h2:aV (tx L k)=true) (h3:¬ ap (eqT (tx L k)) l<0):elZ L l (.ok k)=.ok (k+1):=((if_pos h).trans (if_pos h2)).trans (if_neg h3)
theorem el_none (h:k<(L.length:Int)) (h2:aV (tx L k)=true) (h3:ap (eqT (tx L k)) l<0):elZ L l (.ok k)=noA L 7 k:=((if_pos h).trans (if_pos h2)).trans (if_pos h3)
theorem el_miss (h:k<(L.length:Int)) (h2:aV (tx L k)=false):elZ L l (.ok k)=noA L 3 k:=(if_pos h).trans (if_neg (by rw[h2];decide))
theorem el_end (h:¬ k<(L.length:Int)):elZ L l (.ok k)=enA L:=if_neg h
theorem ed_in (h:k<(L.length:Int)):edZ L (.ok k)=noA L 3 k:=if_pos h
theorem ed_not (h:¬ k<(L.length:Int)):edZ L (.ok k)=.ok k:=if_neg h
theorem nu_in (h:k<(L.length:Int)) (h2:bN (ls (tx L k))=true) (h3:(cx (ls (tx L k)):Int)≤1000):nuZ L (.ok k)=.ok (k+1):=((if_pos h).trans (if_pos h2)).trans (if_pos h3)
theorem nu_rng (h:k<(L.length:Int)) (h2:bN (ls (tx L k))=true) (h3:¬ (cx (ls (tx L k)):Int)≤1000):nuZ L (.ok k)=noA L 2 k:=((if_pos h).trans (if_pos h2)).trans (if_neg h3)
theorem nu_form (h:k<(L.length:Int)) (h2:bN (ls (tx L k))=false):nuZ L (.ok k)=noA L 3 k:=(if_pos h).trans (if_neg (by rw[h2];decide))
theorem nu_end (h:¬ k<(L.length:Int)):nuZ L (.ok k)=enA L:=if_neg h
theorem bd (h:k<(L.length:Int)) (h2:eqT (tx L k) w=true):mrB L w (.ok k)=true:=by show(decide _&&_)=true;rw[decide_eq_true h,h2];rfl
theorem mr_end (h:¬ k<(L.length:Int)):mrB L w (.ok k)=false:=by show(decide _&&_)=false;rw[decide_eq_false h];rfl
theorem aW (h2:eqT (tx L k) w=false):mrB L w (.ok k)=false:=by show(decide _&&_)=false;rw[h2,Bool.and_false]
theorem bo (h:mrB L w (.ok k)=true):k<(L.length:Int)∧eqT (tx L k) w=true:=by
  have h':(decide (k<(L.length:Int))&&eqT (tx L k) w)=true:=h
  rw[Bool.and_eq_true,decide_eq_true_eq] at h';exact h'
theorem mz_yes {X:Pz} (h:mrB L w X=true):mrZ L w X=skZ X:=if_pos h
theorem mz_not {X:Pz} (h:mrB L w X=false):mrZ L w X=X:=if_neg (by rw[h];decide)
end
section
variable {L:List Tk} {most k:Int} {out:List ByteArray}
theorem ls_end (h:¬ k<(L.length:Int)):lsF L most k out=(enA L,[]):=by rw[lsF,dif_neg h]
theorem ls_miss (h:k<(L.length:Int)) (h2:aV (tx L k)=false):lsF L most k out=(noA L 3 k,[]):=by rw[lsF,dif_pos h,if_neg (by rw[h2];decide)]
theorem ls_full (h:k<(L.length:Int)) (h2:aV (tx L k)=true) (h3:(out.length:Int)=most):lsF L most k out=(noA L 5 k,[]):=by rw[lsF,dif_pos h,if_pos h2,if_pos h3]
theorem ls_twice (h:k<(L.length:Int)) (h2:aV (tx L k)=true) (h3:(out.length:Int)≠most) (h4:out.any (eqT (tx L k))=true):lsF L most k out=(noA L 8 k,[]):=by rw[lsF,dif_pos h,if_pos h2,if_neg h3,if_pos h4]
theorem ls_more (h:k<(L.length:Int)) (h2:aV (tx L k)=true) (h3:(out.length:Int)≠most) (h4:out.any (eqT (tx L k))=false) (h5:mrB L wComma (.ok (k+1))=true):lsF L most k out=lsF L most (k+1+1) (out++[tx L k]):=by
  rw[lsF,dif_pos h,if_pos h2,if_neg h3,if_neg (by rw[h4];decide),if_pos h5,show k+1+1=k+2 by omega]
theorem ls_last (h:k<(L.length:Int)) (h2:aV (tx L k)=true) (h3:(out.length:Int)≠most) (h4:out.any (eqT (tx L k))=false) (h5:mrB L wComma (.ok (k+1))=false):lsF L most k out=(edZ L (.ok (k+1)),out++[tx L k]):=by
  rw[lsF,dif_pos h,if_pos h2,if_neg h3,if_neg (by rw[h4];decide),if_neg (by rw[h5];decide)]
end
section
variable {L:List Tk} {ins:List ByteArray} {k j on off:Int}
theorem cd_end (hj:k1 L k=j) (h:¬ j<(L.length:Int)):cdF L ins k on off=⟨enA L,0,0⟩:=by subst hj;rw[cdF,dif_neg h]
theorem cC (hj:k1 L k=j) (h:j<(L.length:Int)) (h2:aV (tx L j)=false):cdF L ins k on off=⟨noA L 3 j,0,0⟩:=by subst hj;rw[cdF,dif_pos h,if_neg (by rw[h2];decide)]
theorem cB (hj:k1 L k=j) (h:j<(L.length:Int)) (h2:aV (tx L j)=true) (h3:ap (eqT (tx L j)) ins<0):cdF L ins k on off=⟨noA L 7 j,0,0⟩:=by subst hj;rw[cdF,dif_pos h,if_pos h2,if_pos (show ixN L ins _<0 from h3)]
theorem bH (hj:k1 L k=j) (h:j<(L.length:Int)) (h2:aV (tx L j)=true) (h3:¬ ap (eqT (tx L j)) ins<0) (h4:bitF (orF on off) (ap (eqT (tx L j)) ins)=true):cdF L ins k on off=⟨noA L 8 j,0,0⟩:=by
  subst hj;rw[cdF,dif_pos h,if_pos h2,if_neg (show ¬ ixN L ins _<0 from h3),if_pos (show bitF _ (ixN L ins _)=true from h4)]
theorem cd_step (hj:k1 L k=j) (h:j<(L.length:Int)) (h2:aV (tx L j)=true) (h3:¬ ap (eqT (tx L j)) ins<0) (h4:bitF (orF on off) (ap (eqT (tx L j)) ins)=false):cdF L ins k on off =
    if mrB L wComma (.ok (j+1)) then cdF L ins (j+1+1) (if mrB L wNot (.ok k) then on else orF on (shF (ap (eqT (tx L j)) ins))) (if mrB L wNot (.ok k) then orF off (shF (ap (eqT (tx L j)) ins)) else off)
    else ⟨.ok (j+1),(if mrB L wNot (.ok k) then on else orF on (shF (ap (eqT (tx L j)) ins))),(if mrB L wNot (.ok k) then orF off (shF (ap (eqT (tx L j)) ins)) else off)⟩:=by
  subst hj;rw[cdF,dif_pos h,if_pos h2,if_neg (show ¬ ixN L ins _<0 from h3),if_neg (show ¬ bitF _ (ixN L ins _)=true by rw[show bitF (orF on off) (ixN L ins (k1 L k))=false from h4];decide),show k1 L k+1+1=k1 L k+2 by omega];rfl
theorem bg (h:mrB L wNot (.ok k)=true):k1 L k=k+1:=if_pos h
theorem bh (h:mrB L wNot (.ok k)=false):k1 L k=k:=if_neg (by rw[h];decide)
end
section
variable {L:List Tk} {w:ByteArray} {l sts ins:List ByteArray} {X Y:Pz} {full:Bool} {e a y z k on off m0 m1 m2 m3 m4:Int}
theorem mr_state (hz:Rz (mrZ L w X) e a y z) (h:mrB L w X=true):∃ k,(X=.ok k∧k<(L.length:Int))∧e=0∧a=k+1∧y=0∧z=0:=by
  rw[mz_yes h] at hz
  cases X with
  | ok k=>exact⟨k,⟨rfl,(bo h).1⟩,hz⟩
  | no x y z=>cases h
theorem isZ_ed (h:isZ (edZ L X)=true):isZ X=true:=by cases X with | ok k=>rfl | no x y z=>exact h
theorem isZ_wd (h:isZ (wdZ L w X)=true):isZ X=true:=by cases X with | ok k=>rfl | no x y z=>exact h
theorem isZ_el (h:isZ (elZ L l X)=true):isZ X=true:=by cases X with | ok k=>rfl | no x y z=>exact h
theorem isZ_nu (h:isZ (nuZ L X)=true):isZ X=true:=by cases X with | ok k=>rfl | no x y z=>exact h
theorem isZ_sk:isZ (skZ X)=isZ X:=by cases X<;>rfl
theorem isZ_af (h:isZ (afZ L X)=true):isZ X=true:=by
  unfold afZ at h;split at h
  · rw[← isZ_sk];exact isZ_nu h
  · exact h
theorem mr_no (h:isZ X=false):mrB L w X=false:=by cases X with | ok k=>cases h | no x y z=>rfl
theorem isZ_cd (h:isZ (cdZ L ins X).z=true):isZ X=true:=by
  cases hx:isZ X with
  | true=>rfl
  | false=>unfold cdZ at h;rw[if_neg (by rw[mr_no hx];decide)] at h;exact hx.symm.trans h
theorem af_yes (h:mrB L cD X=true):afZ L X=nuZ L (mrZ L cD X):=by unfold afZ;rw[if_pos h,mz_yes h]
theorem af_not (h:mrB L cD X=false):afZ L X=mrZ L cD X:=by unfold afZ;rw[if_neg (by rw[h];decide),mz_not h]
theorem av_yes (h:mrB L cD X=true):afV L X=nuV L (mrZ L cD X):=by unfold afV;rw[if_pos h,mz_yes h]
theorem av_not (h:mrB L cD X=false):afV L X=0:=by unfold afV;rw[if_neg (by rw[h];decide)]
theorem cd_first (hk:X=.ok k) (h:mrB L wIf X=true):cdZ L ins X=cdF L ins (k+1) 0 0:=by subst hk;exact if_pos h
theorem cd_skip (h:mrB L wIf X=false):cdZ L ins X=⟨X,0,0⟩:=if_neg (by rw[h];decide)
theorem cd_skv (h:mrB L wIf X=false):0=(cdZ L ins X).on∧0=(cdZ L ins X).off:=by rw[cd_skip h];exact⟨rfl,rfl⟩
theorem isZ_afy (h:mrB L cD X=true) (ha:isZ (afZ L X)=true):isZ (nuZ L (mrZ L cD X))=true:=by rw[← af_yes h];exact ha
theorem mv_err {C:Cz} (h:cdZ L ins (mv2 L sts full)=C) (h2:isZ C.z=false):mvZ L sts ins full=C.z:=by
  unfold mvZ;rw[h];unfold afZ
  rw[if_neg (by rw[mr_no h2];decide)]
  cases hc:C.z with
  | ok k=>rw[hc] at h2;cases h2
  | no x y z=>rfl
theorem mv_val (h:isZ (mvZ L sts ins full)=true) (h0:isZ (elZ L sts (mvS L full))=true→m0=elV L sts (mvS L full)) (h1:isZ (mv2 L sts full)=true→m1=elV L sts (mv1 L sts full)) (h2:isZ (cdZ L ins (mv2 L sts full)).z=true→m2=(cdZ L ins (mv2 L sts full)).on∧m3=(cdZ L ins (mv2 L sts full)).off) (h4:isZ (afZ L (cdZ L ins (mv2 L sts full)).z)=true→m4=afV L (cdZ L ins (mv2 L sts full)).z):(⟨m0,m1,m2,m3,m4⟩:Mv)=mvV L sts ins full:=by
  have a1:=isZ_ed h
  have a2:=isZ_af a1
  have a3:=isZ_cd a2
  have a4:=isZ_wd (isZ_el a3)
  obtain ⟨b1,b2⟩:=h2 a2
  unfold mvV;rw[h0 a4,h1 a3,b1,b2,h4 a1]
theorem mvS_full (h:aV (tx L 0)=true) (h2:full=true):mvS L full=noA L 5 0:=by unfold mvS;rw[h,h2];rfl
theorem mvS_not (h:aV (tx L 0)=false∨full=false):mvS L full=.ok 0:=by unfold mvS;rcases h with h | h<;>rw[h]<;>simp
end
theorem tl_perm {out:List Ln} {i:Nat} (hi:i<out.length):(tlF out).Perm (aa tkE (out.getD i (⟨none,0,0,[]⟩:Ln)).gS_a (out.getD i (⟨none,0,0,[]⟩:Ln)).gS_c 91 4 (out.getD i (⟨none,0,0,[]⟩:Ln)).bS::tlF (out.eraseIdx i)):=by
  have hp:out.Perm (out.getD i (⟨none,0,0,[]⟩:Ln)::out.eraseIdx i):=by
    rw[List.getD_eq_getElem?_getD,List.getElem?_eq_getElem hi,Option.getD_some]
    have h1:=List.perm_middle (a:=out[i]) (l₁:=out.take i) (l₂:=out.drop (i+1))
    rw[List.eraseIdx_eq_take_drop_succ,← List.drop_eq_getElem_cons hi,List.take_append_drop] at *
    exact h1
  unfold tlF
  exact((List.reverse_perm out).map _).trans ((hp.map _).trans (List.Perm.cons _ (((List.reverse_perm (out.eraseIdx i)).symm).map _)))
theorem tl_out {w0 w:World} {L:List Eng.Claim} {out:List Ln} {i:Nat} {a:Option Addr} {c:Nat} {l:List Tk} (S:Sep w0 L w) (n:Nat) (h:L.drop n=tlF out) (ha:a=(out.getD i (⟨none,0,0,[]⟩:Ln)).gS_a) (hc:c=(out.getD i (⟨none,0,0,[]⟩:Ln)).gS_c) (hl:l=(out.getD i (⟨none,0,0,[]⟩:Ln)).bS) (hi:i<out.length) :
    Sep w0 (aa tkE a c 91 4 l::(L.take n++tlF (out.eraseIdx i))) w:=by
  subst ha hc hl
  refine sep_perm S ?_
  have e:L=L.take n++tlF out:=by rw[← h,List.take_append_drop]
  have h1:=(List.Perm.append_left (L.take n) (tl_perm hi)).trans List.perm_middle
  exact(show L.Perm (L.take n++tlF out) from e▸List.Perm.refl _).trans h1
theorem tl_in {w0 w:World} {L:List Eng.Claim} {out:List Ln} {i:Nat} {a:Option Addr} {c:Nat} {l:List Tk} (S:Sep w0 (aa tkE a c 91 4 l::L) w) (n:Nat) (h:L.drop n=tlF (out.eraseIdx i)) (ha:a=(out.getD i (⟨none,0,0,[]⟩:Ln)).gS_a) (hc:c=(out.getD i (⟨none,0,0,[]⟩:Ln)).gS_c) (hl:l=(out.getD i (⟨none,0,0,[]⟩:Ln)).bS) (hi:i<out.length) :
    Sep w0 (L.take n++tlF out) w:=by
  subst ha hc hl
  refine sep_perm S ?_
  have e:L=L.take n++tlF (out.eraseIdx i):=by rw[← h,List.take_append_drop]
  have h1:=(List.Perm.append_left (L.take n) (tl_perm hi)).trans List.perm_middle
  exact(show(_::L).Perm (_::(L.take n++tlF (out.eraseIdx i))) from List.Perm.cons _ (e▸List.Perm.refl _)).trans h1.symm
section
variable {L:List Tk} {ins:List ByteArray} {k j on off:Int}
theorem cd_go {b:Bool} (hj:k1 L k=j) (h:j<(L.length:Int)) (h2:aV (tx L j)=true) (h3:¬ ap (eqT (tx L j)) ins<0) (h4:bitF (orF on off) (ap (eqT (tx L j)) ins)=false) (hb:mrB L wNot (.ok k)=b) (hc:mrB L wComma (.ok (j+1))=true) :
    cdF L ins k on off=cdF L ins (j+1+1) (if b then on else orF on (shF (ap (eqT (tx L j)) ins))) (if b then orF off (shF (ap (eqT (tx L j)) ins)) else off):=by
  rw[cd_step hj h h2 h3 h4,if_pos hc,hb]
theorem bz {b:Bool} (hj:k1 L k=j) (h:j<(L.length:Int)) (h2:aV (tx L j)=true) (h3:¬ ap (eqT (tx L j)) ins<0) (h4:bitF (orF on off) (ap (eqT (tx L j)) ins)=false) (hb:mrB L wNot (.ok k)=b) (hc:mrB L wComma (.ok (j+1))=false) :
    cdF L ins k on off=⟨.ok (j+1),(if b then on else orF on (shF (ap (eqT (tx L j)) ins))),(if b then orF off (shF (ap (eqT (tx L j)) ins)) else off)⟩:=by
  rw[cd_step hj h h2 h3 h4,if_neg (by rw[hc];decide),hb]
end

theorem head_byte {d:ByteArray} {l:List UInt8} (hd:ls d=l) (h:d.size≠0) (k:Nat) (hk:k<256):(l.head? ==some (UInt8.ofNat k))=decide (aA d 0=k):=by
  have hl:=bf d
  rw[byteAt_ls,hd]
  rw[hd] at hl
  cases l with
  | nil=>simp at hl;omega
  | cons c l =>
    rw[List.head?_cons,Bool.eq_iff_iff,beq_iff_eq,decide_eq_true_eq]
    constructor
    · intro e
      have:=Option.some.inj e;subst this
      show(((UInt8.ofNat k).toNat:Nat):Int)=k
      rw[UInt8.toNat_ofNat'];omega
    · intro e
      have e2:((c.toNat:Nat):Int)=k:=e
      congr 1
      apply UInt8.toNat_inj.1
      rw[UInt8.toNat_ofNat'];omega
theorem head48 {d:ByteArray} {l:List UInt8} (hd:ls d=l) (h:d.size≠0):(l.head? ==some 48)=decide (aA d 0=48):=head_byte hd h 48 om
theorem getD_dig {d:ByteArray} {i:Nat} (hi:i<d.size):isDig ((ls d).getD i 0)=(decide (48≤aA d i)&&decide (aA d i≤57)):=by
  rw[byteAt_ls];unfold isDig
  rw[Bool.eq_iff_iff,Bool.and_eq_true,Bool.and_eq_true,decide_eq_true_eq,decide_eq_true_eq,decide_eq_true_eq,decide_eq_true_eq];omega
theorem dg_step {q:Nat→Prop} {i:Int} (h0:0≤i) (hq:∀ k,k<i.toNat→q k) (h:q i.toNat):∀ k,k<(i+1).toNat→q k:=by
  intro k hk
  by_cases e:k=i.toNat
  · subst e;exact h
  · exact hq k om
theorem decV_take {d:ByteArray} {i:Int} (h0:0≤i) (hi:i<(d.size:Int)):(cx ((ls d).take (i+1).toNat):Int)=cx ((ls d).take i.toNat)*10+(((((ls d).getD i.toNat 0).toNat-48:Nat)):Int):=by
  have hl:=bf d
  rw[show(i+1).toNat=i.toNat+1 by omega,List.take_succ_eq_append_getElem om]
  rw[show cx ((ls d).take i.toNat++[(ls d)[i.toNat]])=cx ((ls d).take i.toNat)*10+_ from foldV_snoc _ _ _]
  rw[List.getD_eq_getElem?_getD,List.getElem?_eq_getElem om,Option.getD_some]
  omega
theorem text_first {m:Int}:Lib.decDigits m.toNat=Lib.decDigits m.toNat++ls ByteArray.empty:=by rw[empty_ls,List.append_nil]
theorem text_round {m:Int} (h0:0≤m) (h:¬ m/10=0) (s:ByteArray):Lib.decDigits m.toNat++ls s=Lib.decDigits (m/10).toNat++ls (bytesB [48+m%10]++s):=by
  rw[bl,bytesB_ls,Lib.decDigits,dif_neg om,show(m/10).toNat=m.toNat/10 by omega,List.append_assoc]
  congr 3
  show UInt8.ofNat (48+m.toNat%10)=UInt8.ofNat (48+m%10).toNat
  congr 1;omega
theorem text_last {m:Int} (h0:0≤m) (h:m/10=0) (s:ByteArray):Lib.decDigits m.toNat++ls s=ls (bytesB [48+m%10]++s):=by
  rw[bl,bytesB_ls,Lib.decDigits_one om]
  congr 2
  show UInt8.ofNat (48+m.toNat)=UInt8.ofNat (48+m%10).toNat
  congr 1;omega
theorem text_size {m m0:Int} {s:ByteArray} (hm:0≤m0∧m0≤9223372036854775808) (h:Lib.decDigits m0.toNat=Lib.decDigits m.toNat++ls s):s.size≤20:=by
  have h1:=congrArg List.length h
  rw[List.length_append,bf,Lib.decDigits_length] at h1
  have:=nDigits_le 18 m0.toNat (by rw[ten19];omega)
  omega
theorem text_pos {n m:Int} {s:ByteArray} (hn:¬ n<0) (hm:m=n) (h:Lib.decDigits m.toNat=ls s):s=bL n:=by
  apply ls_inj
  show ls _=Lib.itoa n
  unfold Lib.itoa
  rw[if_neg hn,← hm,h]

def headN (t:ByteArray):Bool:= !(t.toList==(⟨#[44]⟩:ByteArray).toList)&&((t.toList==(⟨#[48]⟩:ByteArray).toList)||decide (aA t 0≠48))
def digsN (d:ByteArray) (n:Nat):Bool:=(List.range n).all fun j=>decide (48≤aA d j)&&decide (aA d j≤57)
theorem digsN_succ (d:ByteArray) {i:Int} (h:0≤i):digsN d (i+1).toNat=(digsN d i.toNat&&(decide (48≤aA d i.toNat)&&decide (aA d i.toNat≤57))):=by
  unfold digsN;rw[show(i+1).toNat=i.toNat+1 by omega,List.range_succ,List.all_append,List.all_cons,List.all_nil,Bool.and_true]
theorem headN_no {t:ByteArray} (h:(t.toList==(⟨#[44]⟩:ByteArray).toList)=true):headN t=false:=by unfold headN;rw[h];rfl
theorem headN_yes {t:ByteArray} (h:(t.toList==(⟨#[44]⟩:ByteArray).toList)=false) (h2:(t.toList==(⟨#[48]⟩:ByteArray).toList)=true):headN t=true:=by unfold headN;rw[h,h2];rfl
theorem headN_dig {t:ByteArray} (h:(t.toList==(⟨#[44]⟩:ByteArray).toList)=false) (h2:(t.toList==(⟨#[48]⟩:ByteArray).toList)=false) (h3:aA t 0≠48):headN t=true:=by unfold headN;rw[h,h2,decide_eq_true h3];rfl
theorem headN_null {t:ByteArray} (h:(t.toList==(⟨#[44]⟩:ByteArray).toList)=false) (h2:(t.toList==(⟨#[48]⟩:ByteArray).toList)=false) (h3:aA t 0=48):headN t=false:=by unfold headN;rw[h,h2,decide_eq_false (fun h4=>h4 h3)];rfl
theorem headN_last {t:ByteArray} (h:(t.toList==(⟨#[44]⟩:ByteArray).toList)=false) (h2:(t.toList==(⟨#[48]⟩:ByteArray).toList)=false):headN t=(aA t 0 != 48):=by unfold headN;rw[h,h2,Bool.eq_iff_iff];simp
theorem canon_bad {s:ByteArray} {i:Nat} (hi:i<s.size) (h:aA s i<48∨57<aA s i):bN (ls s)=false:=by
  have hl:=bf s
  have hf:isDig ((ls s).getD i 0)=false:=by
    rw[getD_dig hi,Bool.and_eq_false_iff,decide_eq_false_iff_not,decide_eq_false_iff_not];omega
  have hall:(ls s).all isDig=false:=by
    rw[List.all_eq_false]
    exact⟨(ls s).getD i 0,by rw[List.getD_eq_getElem?_getD,List.getElem?_eq_getElem om];exact List.getElem_mem _,by rw[hf];simp⟩
  unfold bN;rw[hall,Bool.and_false,Bool.false_and]
theorem canon_dig {s:ByteArray} (h1:1≤s.size) (hq:∀ j,j<s.size→48≤aA s j∧aA s j≤57):bN (ls s)= !(decide (aA s 0=48)&&decide (1<s.size)):=by
  have hl:=bf s
  have hall:(ls s).all isDig=true:=by
    rw[List.all_eq_true]
    intro c hc
    obtain ⟨j,hj,rfl⟩:=List.mem_iff_getElem.1 hc
    have h1:=getD_dig (d:=s) (i:=j) om
    rw[List.getD_eq_getElem?_getD,List.getElem?_eq_getElem hj,Option.getD_some] at h1
    rw[h1];have:=hq j om
    rw[decide_eq_true this.1,decide_eq_true this.2];rfl
  have hne:(ls s).isEmpty=false:=by
    rw[List.isEmpty_eq_false_iff];intro e;rw[e] at hl;simp at hl;omega
  unfold bN
  rw[hall,hne,head48 rfl om,show decide (1<(ls s).length)=decide (1<s.size) by rw[hl]];rfl
theorem zero_text {s:ByteArray} (h1:1≤s.size) (h:aA s 0=48):(s.toList==(⟨#[48]⟩:ByteArray).toList)= !decide (1<s.size):=by
  have hl:=bf s
  have hb:(ls s).getD 0 0=48:=(ck (s:=s) (i:=0) (k:=48) om).2 h
  rw[beq_ls,Bool.eq_iff_iff,beq_iff_eq,Bool.not_eq_true',decide_eq_false_iff_not]
  constructor
  · intro e;rw[e] at hl;have:(1:Nat)=s.size:=hl;omega
  · intro h2
    obtain ⟨x,hx⟩:=List.length_eq_one_iff.1 (show(ls s).length=1 by omega)
    rw[hx] at hb ⊢;rw[show x=48 from hb]
theorem comma_text {s:ByteArray} (hq:48≤aA s 0):(s.toList==(⟨#[44]⟩:ByteArray).toList)=false:=by
  rw[beq_ls,beq_eq_false_iff_ne]
  intro e
  have:aA s 0=44:=by rw[byteAt_ls,e];rfl
  omega
theorem canon_hd {s:ByteArray} (h1:1≤s.size):(headN s&&digsN s s.size)=bN (ls s):=by
  by_cases hq:digsN s s.size=true
  · have hq2:∀ j,j<s.size→48≤aA s j∧aA s j≤57:=fun j hj=>by
      have:=List.all_eq_true.1 hq j (List.mem_range.2 hj)
      simpa using this
    rw[hq,Bool.and_true,canon_dig h1 hq2]
    have h44:=comma_text (hq2 0 om).1
    by_cases h0:aA s 0=48
    · have hz:=zero_text h1 h0
      rw[decide_eq_true h0,Bool.true_and]
      cases hc:(s.toList==(⟨#[48]⟩:ByteArray).toList) with
      | true=>rw[headN_yes h44 hc,← hz,hc]
      | false=>rw[headN_null h44 hc h0,← hz,hc]
    · rw[decide_eq_false h0,Bool.false_and]
      cases hc:(s.toList==(⟨#[48]⟩:ByteArray).toList) with
      | true=>rw[headN_yes h44 hc];rfl
      | false=>rw[headN_dig h44 hc h0];rfl
  · have hq':digsN s s.size=false:=by cases h:digsN s s.size with | false=>rfl | true=>exact absurd h hq
    rw[hq',Bool.and_false]
    obtain ⟨j,hj,hb⟩:=List.all_eq_false.1 hq'
    refine(canon_bad (i:=j) (List.mem_range.1 hj) ?_).symm
    simp at hb
    by_cases h:48≤aA s j
    · exact .inr (hb h)
    · exact .inl om
theorem canon_form {l:List UInt8} (h:bN l=true):negL l=false∧formL l=true∧valL l=(cx l:Int):=by
  obtain ⟨h1,h2,h3⟩:=canonL_facts h
  have hn:negL l=false:=by
    cases l with
    | nil=>exact absurd rfl h1
    | cons c r =>
      have hc:=h2 c (List.mem_cons_self)
      cases hn:negL (c::r) with
      | false=>rfl
      | true =>
        have e:c=45:=by simpa [negL] using hn
        rw[e] at hc;exact absurd hc dE
  have e:=digL_pos hn
  refine⟨hn,?_,?_⟩
  · unfold formL;rw[e];exact h
  · unfold valL;rw[hn,e];rfl
theorem canon_small {s:ByteArray} (h:bN (ls s)=true) (hl:s.size≤4):(cx (ls s):Int)≤9999:=by
  obtain ⟨_,h2,_⟩:=canonL_facts h
  have h3:=decV_lt h2
  have h4:(10:Nat)^(ls s).length≤10^4:=Nat.pow_le_pow_right om (by rw[bf];exact hl)
  omega
theorem canon_big {s:ByteArray} (h:bN (ls s)=true) (hl:4<s.size):1000<(cx (ls s):Int):=by
  obtain ⟨h1,h2,h3⟩:=canonL_facts h
  have hsl:=bf s
  cases hs:ls s with
  | nil=>exact absurd hs h1
  | cons c r =>
    rw[hs] at h2 h3 hsl
    have hc:c.toNat≠48:=by
      intro e
      have:=h3 (by rw[List.head?_cons];congr 1;exact UInt8.toNat_inj.1 e)
      omega
    have h5:=decV_pos h2 hc
    have h6:(10:Nat)^4≤10^r.length:=Nat.pow_le_pow_right om (by rw[List.length_cons] at hsl;omega)
    omega

def wSep:ByteArray:=⟨#[44,32]⟩
def wNl:ByteArray:=⟨#[10]⟩
def notB (t:ByteArray):ByteArray:=(⟨#[110,111,116,32]⟩:ByteArray)++t
def cdL (f:ByteArray→ByteArray) (ins:List ByteArray) (x:Int) (acc:List ByteArray):Nat→List ByteArray
  | 0=>acc
  | n+1=>if bitF x (n:Int) then cdL f ins x acc n++[f (ins.getD n ByteArray.empty)] else cdL f ins x acc n
def cdOn (c:Cht) (m:Mv) (n:Nat):List ByteArray:=cdL id c.ay m.gOn [] n
def cdOff (c:Cht) (m:Mv) (n:Nat):List ByteArray:=cdL notB c.ay m.aN (cdOn c m c.ay.length) n
def cdM (c:Cht) (m:Mv):List ByteArray:=cdOff c m c.ay.length
def stB (c:Cht) (k:Int):ByteArray:=c.aB.getD k.toNat ByteArray.empty
def cdT (l:List ByteArray):ByteArray:=if l.length=0 then ByteArray.empty else (⟨#[32,105,102,32]⟩:ByteArray)++bK l wSep
def afT (m:Mv):ByteArray:=if m.ax>0 then (⟨#[32,97,102,116,101,114,32]⟩:ByteArray)++bL m.ax else ByteArray.empty
def mvT (c:Cht) (m:Mv):ByteArray:=((((stB c m.aC++(⟨#[32,116,111,32]⟩:ByteArray))++stB c m.gTo)++cdT (cdM c m))++afT m)++wNl
def lsT (w:ByteArray) (l:List ByteArray):ByteArray:=((w++(⟨#[32]⟩:ByteArray))++bK l wSep)++wNl
def hdT (c:Cht):ByteArray:=(lsT wStates c.aB++(if c.ay.length=0 then ByteArray.empty else lsT cy c.ay))++(((⟨#[115,116,97,114,116,32]⟩:ByteArray)++stB c c.av)++wNl)
def mvsT (c:Cht):Nat→ByteArray
  | 0=>hdT c
  | n+1=>mvsT c n++mvT c (c.ab.getD n (⟨0,0,0,0,0⟩:Mv))
def txC (c:Cht):ByteArray:=if aM c then mvsT c c.ab.length else ByteArray.empty
def txE (c:Cht):Int:=if aM c then 0 else 1
theorem tx_no {c:Cht} (h:aM c=false):txC c=ByteArray.empty∧txE c=1:=by unfold txC txE;rw[h];exact⟨rfl,rfl⟩
theorem tx_yes {c:Cht} (h:aM c=true):txC c=mvsT c c.ab.length∧txE c=0:=by unfold txC txE;rw[h];exact⟨rfl,rfl⟩
theorem bw (a b:ByteArray):(a++b).size=a.size+b.size:=ByteArray.size_append
theorem name_size {s:ByteArray} (h:aV s=true):1≤s.size∧s.size≤24:=by
  simp only[aV,Bool.and_eq_true,decide_eq_true_eq] at h;exact⟨h.1.1.1.1,h.1.1.1.2⟩
theorem names_at {l:List ByteArray} (h:bM l=true) {k:Nat} (hk:k<l.length):aV (l.getD k ByteArray.empty)=true:=by
  unfold bM at h
  have:=List.all_eq_true.1 h k (List.mem_range.2 hk)
  simp only[Bool.and_eq_true] at this;exact this.1
theorem ch {l:List ByteArray} (h:bM l=true):∀ b ∈ l,b.size≤24:=by
  intro b hb
  obtain ⟨k,hk,rfl⟩:=List.mem_iff_getElem.1 hb
  have:=names_at h hk
  rw[List.getD_eq_getElem?_getD,List.getElem?_eq_getElem hk,Option.getD_some] at this
  exact(name_size this).2
theorem ce {l:List ByteArray} (h:bM l=true) (k:Nat):(l.getD k ByteArray.empty).size≤24:=by
  by_cases hk:k<l.length
  · exact(name_size (names_at h hk)).2
  · rw[List.getD_eq_getElem?_getD,List.getElem?_eq_none om];exact Nat.zero_le _
theorem aZ {c:Cht} (h:aM c=true):bM c.aB=true∧bM c.ay=true:=by
  simp only[aM,Bool.and_eq_true,decide_eq_true_eq] at h;exact⟨h.1.1.1.1.1.2,h.1.1.1.1.2⟩
theorem cdL_succ {f:ByteArray→ByteArray} {ins acc:List ByteArray} {x i:Int} (h0:0≤i):cdL f ins x acc (i+1).toNat=if bitF x i then cdL f ins x acc i.toNat++[f (ins.getD i.toNat ByteArray.empty)] else cdL f ins x acc i.toNat:=by
  rw[show(i+1).toNat=i.toNat+1 by omega,cdL,show((i.toNat:Nat):Int)=i by omega]
theorem cdL_len (f:ByteArray→ByteArray) (ins:List ByteArray) (x:Int) (acc:List ByteArray):∀ n,(cdL f ins x acc n).length≤acc.length+n
  | 0=>Nat.le_refl _
  | n+1=>by
    have ih:=cdL_len f ins x acc n
    rw[cdL];split
    · rw[List.length_append,List.length_singleton];omega
    · omega
theorem cdL_all {f:ByteArray→ByteArray} {ins acc:List ByteArray} {x:Int} {q:ByteArray→Prop} (ha:∀ b ∈ acc,q b) (hf:∀ n,q (f (ins.getD n ByteArray.empty))):∀ n,∀ b ∈ cdL f ins x acc n,q b
  | 0=>ha
  | n+1=>by
    have ih:=cdL_all ha hf (x:=x) n
    intro b hb
    rw[cdL] at hb;split at hb
    · rcases List.mem_append.1 hb with h | h
      · exact ih b h
      · rw[List.mem_singleton.1 h];exact hf n
    · exact ih b hb
theorem not_size (t:ByteArray):(notB t).size=4+t.size:=by unfold notB;rw[bw];rfl
theorem cdOn_all {c:Cht} (h:aM c=true) (m:Mv) (n:Nat):∀ b ∈ cdOn c m n,b.size≤24:=cdL_all (fun b hb=>by cases hb) (fun n=>ce (aZ h).2 n) n
theorem cdOff_all {c:Cht} (h:aM c=true) (m:Mv) (n:Nat):∀ b ∈ cdOff c m n,b.size≤28:=cdL_all (fun b hb=>Nat.le_trans (cdOn_all h m _ b hb) dE) (fun n=>by rw[not_size];have:=ce (aZ h).2 n;omega) n
theorem cdOff_len (c:Cht) (m:Mv) (n:Nat):(cdOff c m n).length≤c.ay.length+n:=by
  have h1:=cdL_len notB c.ay m.aN (cdOn c m c.ay.length) n
  have h2:=cdL_len id c.ay m.gOn [] c.ay.length
  unfold cdOff cdOn at *;simp only[List.length_nil] at h2;omega
theorem join_room {l:List ByteArray} {k n:Nat} (h:∀ b ∈ l,b.size≤k) (hn:l.length≤n):(bK l (⟨#[44,32]⟩:ByteArray)).size≤n*(k+2) :=
  Nat.le_trans (joinB_size h) (Nat.mul_le_mul_right _ hn)
theorem cd_room {c:Cht} (h:aM c=true) (hi:c.ay.length≤10) (m:Mv):(bK (cdM c m) (⟨#[44,32]⟩:ByteArray)).size≤600 :=
  join_room (k:=28) (n:=20) (cdOff_all h m _) (by have:=cdOff_len c m c.ay.length;unfold cdM;omega)
theorem mv_room {c:Cht} (h:aM c=true) (hi:c.ay.length≤10) {m:Mv} (ha:0≤m.ax∧m.ax≤1000):(mvT c m).size≤700:=by
  have h1:=ce (aZ h).1 m.aC.toNat
  have h2:=ce (aZ h).1 m.gTo.toNat
  have h3:=cd_room h hi m
  have h4:=bE (n:=m.ax) om
  have h5:(cdT (cdM c m)).size≤604:=by
    unfold cdT;split
    · exact Nat.zero_le _
    · rw[bw];show 4+_≤_;unfold wSep;omega
  have h6:(afT m).size≤31:=by
    unfold afT;split
    · rw[bw];show 7+_≤_;omega
    · exact Nat.zero_le _
  unfold mvT stB
  rw[bw,bw,bw,bw,bw]
  show(_+4+_+_+_)+1≤700;omega
theorem ls_room {w:ByteArray} {l:List ByteArray} (hw:w.size≤6) (h:∀ b ∈ l,b.size≤24) (hl:l.length≤20):(lsT w l).size≤528:=by
  have h1:=join_room h hl
  unfold lsT wSep;rw[bw,bw,bw];show(_+1+_)+1≤_;omega
theorem hd_room {c:Cht} (h:aM c=true) (hs:c.aB.length≤20) (hi:c.ay.length≤10):(hdT c).size≤1200:=by
  have h1:=ls_room (w:=wStates) dE (ch (aZ h).1) hs
  have h2:=ls_room (w:=cy) dE (ch (aZ h).2) (Nat.le_trans hi dE)
  have h3:(if c.ay.length=0 then ByteArray.empty else lsT cy c.ay).size≤528:=by
    split
    · exact Nat.zero_le _
    · exact h2
  have h4:=ce (aZ h).1 c.av.toNat
  unfold hdT stB;rw[bw,bw,bw,bw];show _+_+(6+_+1)≤_;omega
theorem mvs_room {c:Cht} (h:aM c=true) (hs:c.aB.length≤20) (hi:c.ay.length≤10) (ha:∀ k,k<c.ab.length→0≤(c.ab.getD k (⟨0,0,0,0,0⟩:Mv)).ax∧(c.ab.getD k (⟨0,0,0,0,0⟩:Mv)).ax≤1000):∀ n,n≤c.ab.length→(mvsT c n).size≤1200+700*n
  | 0,_=>hd_room h hs hi
  | n+1,hn=>by
    have ih:=mvs_room h hs hi ha n om
    have:=mv_room h hi (ha n om)
    rw[mvsT,bw];omega
theorem bG {c:Cht} {i:Int} (h0:0≤i):mvsT c (i+1).toNat=mvsT c i.toNat++mvT c (c.ab.getD i.toNat (⟨0,0,0,0,0⟩:Mv)):=by
  rw[show(i+1).toNat=i.toNat+1 by omega];rfl
theorem mv_at {c:Cht} (h:aM c=true) {k:Nat} (hk:k<c.ab.length):(0≤(c.ab.getD k (⟨0,0,0,0,0⟩:Mv)).aC∧(c.ab.getD k (⟨0,0,0,0,0⟩:Mv)).aC<(c.aj:Int))∧(0≤(c.ab.getD k (⟨0,0,0,0,0⟩:Mv)).gTo∧(c.ab.getD k (⟨0,0,0,0,0⟩:Mv)).gTo<(c.aj:Int))∧0≤(c.ab.getD k (⟨0,0,0,0,0⟩:Mv)).ax∧(c.ab.getD k (⟨0,0,0,0,0⟩:Mv)).ax≤1000:=by
  have h5:=(cr h).2.2.2.2
  rw[List.all_eq_true] at h5
  have hm:=bu (Q:=fun m=>mvB c.aj (bc c) m=true) h5 (n:=k) (⟨0,0,0,0,0⟩:Mv) hk
  simp only[mvB,Bool.and_eq_true,decide_eq_true_eq] at hm;omega
def liT (w:ByteArray) (l:List ByteArray):Nat→ByteArray
  | 0=>w
  | n+1=>(if n>0 then liT w l n++(⟨#[44]⟩:ByteArray) else liT w l n)++((⟨#[32]⟩:ByteArray)++l.getD n ByteArray.empty)
theorem li_join (w:ByteArray) (l:List ByteArray):∀ n,1≤n→n≤l.length→ls (liT w l n)=ls w++(32::Lib.join ((l.take n).map ls) [44,32])
  | 0,h,_=>by omega
  | 1,_,hn=>by
    obtain ⟨a,r,rfl⟩:∃ a r,l=a::r:=by cases l with | nil=>simp at hn | cons a r=>exact⟨a,r,rfl⟩
    show ls (w++((⟨#[32]⟩:ByteArray)++a))=_
    rw[bl,bl];simp[Lib.join];rfl
  | n+2,_,hn=>by
    have ih:=li_join w l (n+1) om om
    rw[liT,if_pos om,bl,bl,bl,ih]
    obtain ⟨a,r,hl⟩:∃ a r,l=a::r:=by cases l with | nil=>simp at hn | cons a r=>exact⟨a,r,rfl⟩
    subst hl
    have hn2:n<r.length:=by simp at hn;omega
    rw[List.take_succ_cons,List.take_succ_cons,List.map_cons,List.map_cons,Lib.join_cons,Lib.join_cons,List.take_succ_eq_append_getElem hn2,List.map_append]
    have e:(a::r).getD (n+1) ByteArray.empty=r[n]:=by rw[List.getD_cons_succ,List.getD_eq_getElem?_getD,List.getElem?_eq_getElem hn2];rfl
    rw[e]
    simp[Lib.joinTail,show ls (⟨#[44]⟩:ByteArray)=[44] from rfl,show ls (⟨#[32]⟩:ByteArray)=[32] from rfl]
theorem li_text {w:ByteArray} {l:List ByteArray} (h:1≤l.length):liT w l l.length++(⟨#[10]⟩:ByteArray)=lsT w l:=by
  apply ls_inj
  unfold lsT wNl
  rw[bl,bl,bl,bl,li_join w l l.length h (Nat.le_refl _),List.take_length]
  show _=((ls w++[32])++Lib.join (l.map ls) [44,32])++_
  simp
end Go.Proofs.YtdneanhkcnfgdaaGreatDoor
