/- The proof engine, fourth part: regions that draw their order, order by order. Conditions: none; it is generic in the program. -/
import Derived.Test.YtaoolgcddapegaaGreatZqEng
import Derived.OrdersHeld
import Derived.ProofKit
import Derived.OpenShut
import Derived.ShutString
import Derived.ChangeOld
set_option linter.unusedSimpArgs false
set_option linter.unusedVariables false
namespace Go.Eng
open Go.RowKit

section
variable {P:Program} {f:FuncId} {N:Nat} {R:Value→World→Prop}

def WA (P:Program) (f:FuncId) (N:Nat) (R:Value→World→Prop) (K:List Item) (H:World→Prop) (fuel:Nat) (l:Array Bool) (env:Env) (w:World):Prop :=
  H w→∀ a,Fits N env a→wpAnyH P .any (bL K) (Qn P f R (cR K)) H fuel l a w

def WB (P:Program) (f:FuncId) (N:Nat) (R:Value→World→Prop) (K:List Item) (H:World→Prop) (fuel:Nat) (l:Array Bool) (env:Env) (w:World):Prop :=
  H w∧WA P f N R K H fuel l env w

def WO (P:Program) (f:FuncId) (N:Nat) (R:Value→World→Prop) (K:List Item) (H:World→Prop) (fuel:Nat) (l:Array Bool) (i:Nat) (env:Env) (w:World):Prop :=
  ∀ a,Fits N env a→wpOp P (bL K) (Qn P f R (cR K)) i (fun a' w'=>H w'∧wpAnyH P .any (bL K) (Qn P f R (cR K)) H fuel l a' w') a w

def AllW (P:Program) (f:FuncId) (N:Nat) (R:Value→World→Prop) (K:List Item) (H:World→Prop) (fuel:Nat) (l:Array Bool) (env:Env) (w:World):List Nat→Prop
  | []=>True
  | i::r=>WO P f N R K H fuel (l.setIfInBounds i true) i env w∧AllW P f N R K H fuel l env w r

variable {H:World→Prop}

theorem WB.mk {K:List Item} {fuel:Nat} {l:Array Bool} {env:Env} {w:World} (h:H w) (k:WA P f N R K H fuel l env w):WB P f N R K H fuel l env w:=⟨h,k⟩

theorem WB.out {K:List Item} {fuel:Nat} {l:Array Bool} {env:Env} {w:World} {a:Act} (k:WB P f N R K H fuel l env w) (hf:Fits N env a):H w∧wpAnyH P .any (bL K) (Qn P f R (cR K)) H fuel l a w:=⟨k.1,k.2 k.1 a hf⟩

theorem WA.all {K:List Item} {fuel:Nat} {l:Array Bool} {env:Env} {w:World} (rs:List Nat) (hr:Region.ready .any (bL K) l=rs) (hne:rs.isEmpty=false) (h:AllW P f N R K H fuel l env w rs):WA P f N R K H (fuel+1) l env w:=by
  intro _ a hf
  refine wpAnyH_all hr (by cases rs<;>simp_all) fun i hi=>?_
  clear hr hne
  induction rs with
  | nil=>cases hi
  | cons j r ih =>
    rcases List.mem_cons.1 hi with rfl | hi
    · exact h.1 a hf
    · exact ih h.2 hi

theorem WO.set {K:List Item} {fuel:Nat} {l:Array Bool} {i:Nat} {env:Env} {w:World} (l':Array Bool) (hl:l=l') (k:WO P f N R K H fuel l' i env w):WO P f N R K H fuel l i env w:=by
  subst hl;exact k

theorem WO.ok {K:List Item} {fuel:Nat} {l:Array Bool} {i:Nat} {env:Env} {w w':World} {d:Option Nat} {v:Value} (h:OK P N (cz (bL K) i) env w d v w') (k:WB P f N R K H fuel l (put env d v) w'):WO P f N R K H fuel l i env w:=by
  intro a hf
  obtain ⟨o,ho,rfl,hr⟩:=h
  obtain ⟨hi,hw,he,hfit⟩:=dN ho hf
  unfold wpOp
  simp only[hi,hw,if_true]
  refine .inl ?_
  unfold Oper.wp
  rw[he]
  rcases hr with hr | ⟨rfl,hr⟩
  · rw[hr];exact k.out (hfit v)
  · rw[hr];exact k.out (hfit undef)

theorem WO.pass {K:List Item} {fuel:Nat} {l:Array Bool} {i:Nat} {env:Env} {w:World} {d:Option Nat} (h:passAt N (bL K) i env=some d) (k:WB P f N R K H fuel l (put env d undef) w):WO P f N R K H fuel l i env w:=by
  intro a hf
  obtain ⟨o,hi,rfl,hw,hfit⟩:=passAt_spec h hf
  unfold wpOp
  simp only[hi,hw,Bool.false_eq_true,if_false]
  exact k.out hfit

theorem WO.stBox {w0 w:World} {L:List Claim} (S:Sep w0 L w) (i:Nat) {b:Nat} {cs:List Value} {T:TypeId} {K:List Item} {fuel:Nat} {l:Array Bool} {j:Nat} {env:Env} (t:TypeId) (off:Nat) (v:Value) (cs':List Value) (L':List Claim)
    (h:stAt N (cz (bL K) j) env=some (none,t,⟨b,off,none⟩,v)) (hi:L[i]? =some (box b cs T)) (hs:(P.info? t).map (·.size)=some v.cells.size) (hv:stV off v.cells.toList cs=some cs')
    (hL:L.set i (box b cs' T)=L')
    (k:∀ w',Sep w0 L' w'→WB P f N R K H fuel l env w'):WO P f N R K H fuel l j env w:=by
  subst hL
  exact WO.ok (OK.store _ h (run_storeVar (S.nth i hi) hs hv)) (k _ (S.setBox i cs' hi))

theorem WO.new {w0 w:World} {L:List Claim} (S:Sep w0 L w) (d:Nat) (cs:List Value) (T:TypeId) {K:List Item} {fuel:Nat} {l:Array Bool} {j:Nat} {env:Env}
    (h:opRun P N (cz (bL K) j) env w=some (some d,.ok (.value (.pointer (some ⟨w.heap.size,0,none⟩))) (w.alloc (.cells cs.toArray T))))
    (k:∀ b w',Sep w0 (box b cs T::L) w'→WB P f N R K H fuel l ((d,.pointer (some ⟨b,0,none⟩))::env) w'):WO P f N R K H fuel l j env w:=by
  obtain ⟨o,ho,hd,hr⟩:=cK h
  exact WO.ok ⟨o,ho,hd,.inl hr⟩ (k _ _ (S.alloc cs T))

theorem WO.callF {K:List Item} {fuel:Nat} {l:Array Bool} {j:Nat} {env:Env} {w:World} (d:Nat) (g:FuncId) (args:Array Value) (hb:af P g) (h:callAt N (cz (bL K) j) env=some (some d,g,args)) {Q:Value→World→Prop}
    (hc:Ret P g args w Q) (k:∀ v w',Q v w'→WB P f N R K H fuel l ((d,v)::env) w'):WO P f N R K H fuel l j env w:=by
  intro a hf
  obtain ⟨o,ho,hd,hr⟩:=callAt_spec hb h w
  obtain ⟨hi,hw,he,hfit⟩:=dN ho hf
  unfold wpOp
  simp only[hi,hw,if_true]
  refine .inl ?_
  unfold Oper.wp
  rw[he,hr]
  refine Calls.mono hc ?_
  rintro _ w' ⟨v,rfl,hq⟩
  have:=(k v w' hq).out (by have:=hfit v;rw[hd] at this;exact this)
  rw[hd]
  exact this

theorem WA.take {K:List Item} {fuel:Nat} {l:Array Bool} {env:Env} {w:World} (i d:Nat) (v:Value) (l':Array Bool) (hs:Region.noSelect (bL K)=true) (hf:Region.free .any (bL K) l i=true) (hr:(Region.ready .any (bL K) l).contains i=true)
    (hv:∀ w,H w→opRun P N (cz (bL K) i) env w=some (some d,.ok (.value v) w)) (hl:l.setIfInBounds i true=l') (k:WA P f N R K H fuel l' ((d,v)::env) w):WA P f N R K H (fuel+1) l env w:=by
  subst hl
  intro hH a hfit
  obtain ⟨o,ho,hd,_⟩:=cK (hv w hH)
  obtain ⟨hi,hw,he,hfi⟩:=dN ho hfit
  refine wpAnyH_take hi hs hf hr (v:=v) (fun c a w h=>by cases h.1) (.inl ⟨hw,fun w' hw'=>?_⟩) hH (k hH _ (by have:=hfi v;rw[hd] at this;exact this) |> fun h=>by rw[hd];exact h)
  obtain ⟨o2,ho2,_,hr2⟩:=cK (hv w' hw')
  rw[ho] at ho2
  cases ho2
  rw[he];exact hr2

theorem WA.takeOK {K:List Item} {fuel:Nat} {l:Array Bool} {env:Env} {w:World} (i:Nat) (l':Array Bool) (hs:Region.noSelect (bL K)=true) (hf:Region.free .any (bL K) l i=true) (hr:(Region.ready .any (bL K) l).contains i=true) (hl:l.setIfInBounds i true=l') {d:Nat} {v:Value}
    (hv:∀ w,H w→OK P N (cz (bL K) i) env w (some d) v w) (hu:(match v with | .tuple _=>false | _=>true)=true) (k:WA P f N R K H fuel l' ((d,v)::env) w):WA P f N R K H (fuel+1) l env w:=by
  refine WA.take i d v l' hs hf hr (fun w hw=>?_) hl k
  obtain ⟨o,ho,hd,hrun⟩:=hv w hw
  unfold opRun
  rw[ho]
  rcases hrun with hrun | ⟨rfl,_⟩
  · simp[hd,hrun]
  · cases hu

theorem WA.takePass {K:List Item} {fuel:Nat} {l:Array Bool} {env:Env} {w:World} (i:Nat) (d:Option Nat) (l':Array Bool) (hs:Region.noSelect (bL K)=true) (hf:Region.free .any (bL K) l i=true) (hr:(Region.ready .any (bL K) l).contains i=true)
    (hv:passAt N (bL K) i env=some d) (hl:l.setIfInBounds i true=l') (k:WA P f N R K H fuel l' (put env d undef) w):WA P f N R K H (fuel+1) l env w:=by
  subst hl
  intro hH a hfit
  obtain ⟨o,hi,rfl,hw,hfi⟩:=passAt_spec hv hfit
  exact wpAnyH_take hi hs hf hr (v:=undef) (fun c a w h=>by cases h.1) (.inr ⟨hw,rfl⟩) hH (k hH _ hfi)

theorem WA.done {K:List Item} {fuel:Nat} {l:Array Bool} {env:Env} {w:World} (hr:Region.ready .any (bL K) l=[]) (k:J P f N R (cR K) env w):WA P f N R K H fuel l env w :=
  fun _ a hf=>wpAnyH_done hr ⟨rfl,k a hf⟩ fuel

theorem WA.weaken {K:List Item} {fuel:Nat} {l:Array Bool} {env env':Env} {w:World} (h:(env'.map fun p=>cT env p.1)=env'.map fun p=>some p.2) (k:WA P f N R K H fuel l env' w):WA P f N R K H fuel l env w :=
  fun hH a hf=>k hH a (hf.sub h)

theorem WA.head {K:List Item} {fuel:Nat} {l:Array Bool} {t:Nat} {v:Value} (v':Value) {env:Env} {w:World} (hv:v=v') (k:WA P f N R K H fuel l ((t,v')::env) w):WA P f N R K H fuel l ((t,v)::env) w:=by
  subst hv;exact k

theorem WB.head {K:List Item} {fuel:Nat} {l:Array Bool} {t:Nat} {v:Value} (v':Value) {env:Env} {w:World} (hv:v=v') (k:WB P f N R K H fuel l ((t,v')::env) w):WB P f N R K H fuel l ((t,v)::env) w:=by
  subst hv;exact k

theorem J.drawAny (H:World→Prop) {w0:World} {L:List Claim} {K:List Item} {env:Env} {w:World} (S:Sep w0 L w) (n:Nat) (l:Array Bool) (hm:P.follows .mixedOrders=true) (hd:isDraw K=true) (hn:(bL K).size=n) (hl:Array.replicate n false=l)
    (k:∀ w',Sep w0 L w'→WB P f N R K H n l env w'):J P f N R K env w:=by
  subst hl hn
  intro a hf
  have hk:=(k _ S.drew).out hf
  unfold isDraw at hd
  split at hd
  · rename_i id ops k'
    exact Ja.of_wp (wp_region_held (P:=P) (id:=id) (ops:=ops) (Q:=Qn P f R k') (a:=a) (w:=w) hm hk.2)
  · cases hd

def planB (ops:Array Oper):List (Nat×Bool)→Array Bool→Bool
  | [],l=>(Region.ready .any ops l).isEmpty
  | (i,true)::r,l=>(Region.ready .any ops l).contains i&&Region.free .any ops l i&&planB ops r (l.setIfInBounds i true)
  | (i,false)::r,l=>decide (Region.ready .any ops l=[i])&&planB ops r (l.setIfInBounds i true)

def planOK (ops:Array Oper) (plan:List (Nat×Bool)):Bool:=Region.noSelect ops&&decide (plan.length=ops.size)&&planB ops plan (Array.replicate ops.size false)

def PL (P:Program) (f:FuncId) (N:Nat) (R:Value→World→Prop) (K:List Item) (H:World→Prop) (plan:List (Nat×Bool)) (env:Env) (w:World):Prop :=
  ∀ l,Region.noSelect (bL K)=true→planB (bL K) plan l=true→H w→∀ a,Fits N env a→wpAnyH P .any (bL K) (Qn P f R (cR K)) H plan.length l a w

def PB (P:Program) (f:FuncId) (N:Nat) (R:Value→World→Prop) (K:List Item) (H:World→Prop) (plan:List (Nat×Bool)) (env:Env) (w:World):Prop :=
  H w∧PL P f N R K H plan env w

theorem PB.mk {K:List Item} {plan:List (Nat×Bool)} {env:Env} {w:World} (h:H w) (k:PL P f N R K H plan env w):PB P f N R K H plan env w:=⟨h,k⟩

theorem PL.take {K:List Item} {plan:List (Nat×Bool)} {env:Env} {w:World} (i d:Nat) (v:Value)
    (hv:∀ w,H w→opRun P N (cz (bL K) i) env w=some (some d,.ok (.value v) w)) (k:PL P f N R K H plan ((d,v)::env) w):PL P f N R K H ((i,true)::plan) env w:=by
  intro l hs hp hH a hfit
  simp only[planB,Bool.and_eq_true] at hp
  obtain ⟨o,ho,hd,_⟩:=cK (hv w hH)
  obtain ⟨hi,hw,he,hfi⟩:=dN ho hfit
  refine wpAnyH_take hi hs hp.1.2 hp.1.1 (v:=v) (fun c a w h=>by cases h.1) (.inl ⟨hw,fun w' hw'=>?_⟩) hH (k _ hs hp.2 hH _ (by have:=hfi v;rw[hd] at this;exact this) |> fun h=>by rw[hd];exact h)
  obtain ⟨o2,ho2,_,hr2⟩:=cK (hv w' hw')
  rw[ho] at ho2
  cases ho2
  rw[he];exact hr2

theorem PL.takeOK {K:List Item} {plan:List (Nat×Bool)} {env:Env} {w:World} (i:Nat) {d:Nat} {v:Value}
    (hv:∀ w,H w→OK P N (cz (bL K) i) env w (some d) v w) (hu:(match v with | .tuple _=>false | _=>true)=true) (k:PL P f N R K H plan ((d,v)::env) w):PL P f N R K H ((i,true)::plan) env w:=by
  refine PL.take i d v (fun w hw=>?_) k
  obtain ⟨o,ho,hd,hrun⟩:=hv w hw
  unfold opRun
  rw[ho]
  rcases hrun with hrun | ⟨rfl,_⟩
  · simp[hd,hrun]
  · cases hu

theorem PL.takePass {K:List Item} {plan:List (Nat×Bool)} {env:Env} {w:World} (i:Nat) (d:Option Nat)
    (hv:passAt N (bL K) i env=some d) (k:PL P f N R K H plan (put env d undef) w):PL P f N R K H ((i,true)::plan) env w:=by
  intro l hs hp hH a hfit
  simp only[planB,Bool.and_eq_true] at hp
  obtain ⟨o,hi,rfl,hw,hfi⟩:=passAt_spec hv hfit
  exact wpAnyH_take hi hs hp.1.2 hp.1.1 (v:=undef) (fun c a w h=>by cases h.1) (.inr ⟨hw,rfl⟩) hH (k _ hs hp.2 hH _ hfi)

theorem PL.only {K:List Item} {plan:List (Nat×Bool)} {env:Env} {w:World} (i:Nat) (k:∀ a,Fits N env a→∀ l,Region.noSelect (bL K)=true→planB (bL K) plan l=true →
    wpOp P (bL K) (Qn P f R (cR K)) i (fun a' w'=>H w'∧wpAnyH P .any (bL K) (Qn P f R (cR K)) H plan.length l a' w') a w):PL P f N R K H ((i,false)::plan) env w:=by
  intro l hs hp hH a hfit
  simp only[planB,Bool.and_eq_true,decide_eq_true_eq] at hp
  refine wpAnyH_all hp.1 (by simp) fun j hj=>?_
  simp only[List.mem_singleton] at hj
  subst hj
  exact k a hfit _ hs hp.2

theorem PL.ok {K:List Item} {plan:List (Nat×Bool)} {i:Nat} {env:Env} {w w':World} {d:Option Nat} {v:Value} (h:OK P N (cz (bL K) i) env w d v w') (k:PB P f N R K H plan (put env d v) w'):PL P f N R K H ((i,false)::plan) env w:=by
  refine PL.only i fun a hf l hs hp=>?_
  obtain ⟨o,ho,rfl,hr⟩:=h
  obtain ⟨hi,hw,he,hfit⟩:=dN ho hf
  unfold wpOp
  simp only[hi,hw,if_true]
  refine .inl ?_
  unfold Oper.wp
  rw[he]
  rcases hr with hr | ⟨rfl,hr⟩
  · rw[hr];exact⟨k.1,k.2 l hs hp k.1 _ (hfit v)⟩
  · rw[hr];exact⟨k.1,k.2 l hs hp k.1 _ (hfit undef)⟩

theorem PL.stBox {w0 w:World} {L:List Claim} (S:Sep w0 L w) (i:Nat) {b:Nat} {cs:List Value} {T:TypeId} {K:List Item} {plan:List (Nat×Bool)} {j:Nat} {env:Env} (t:TypeId) (off:Nat) (v:Value) (cs':List Value) (L':List Claim)
    (h:stAt N (cz (bL K) j) env=some (none,t,⟨b,off,none⟩,v)) (hi:L[i]? =some (box b cs T)) (hs:(P.info? t).map (·.size)=some v.cells.size) (hv:stV off v.cells.toList cs=some cs')
    (hL:L.set i (box b cs' T)=L')
    (k:∀ w',Sep w0 L' w'→PB P f N R K H plan env w'):PL P f N R K H ((j,false)::plan) env w:=by
  subst hL
  exact PL.ok (OK.store _ h (run_storeVar (S.nth i hi) hs hv)) (k _ (S.setBox i cs' hi))

theorem PL.new {w0 w:World} {L:List Claim} (S:Sep w0 L w) (d:Nat) (cs:List Value) (T:TypeId) {K:List Item} {plan:List (Nat×Bool)} {j:Nat} {env:Env}
    (h:opRun P N (cz (bL K) j) env w=some (some d,.ok (.value (.pointer (some ⟨w.heap.size,0,none⟩))) (w.alloc (.cells cs.toArray T))))
    (k:∀ b w',Sep w0 (box b cs T::L) w'→PB P f N R K H plan ((d,.pointer (some ⟨b,0,none⟩))::env) w'):PL P f N R K H ((j,false)::plan) env w:=by
  obtain ⟨o,ho,hd,hr⟩:=cK h
  exact PL.ok ⟨o,ho,hd,.inl hr⟩ (k _ _ (S.alloc cs T))

theorem PL.callF {K:List Item} {plan:List (Nat×Bool)} {j:Nat} {env:Env} {w:World} (d:Nat) (g:FuncId) (args:Array Value) (hb:af P g) (h:callAt N (cz (bL K) j) env=some (some d,g,args)) {Q:Value→World→Prop}
    (hc:Ret P g args w Q) (k:∀ v w',Q v w'→PB P f N R K H plan ((d,v)::env) w'):PL P f N R K H ((j,false)::plan) env w:=by
  refine PL.only j fun a hf l hs hp=>?_
  obtain ⟨o,ho,hd,hr⟩:=callAt_spec hb h w
  obtain ⟨hi,hw,he,hfit⟩:=dN ho hf
  unfold wpOp
  simp only[hi,hw,if_true]
  refine .inl ?_
  unfold Oper.wp
  rw[he,hr]
  refine Calls.mono hc ?_
  rintro _ w' ⟨v,rfl,hq⟩
  have hk:=k v w' hq
  have:=hk.2 l hs hp hk.1 _ (by have:=hfit v;rw[hd] at this;exact this)
  rw[hd]
  exact⟨hk.1,this⟩

theorem PL.done {K:List Item} {env:Env} {w:World} (k:J P f N R (cR K) env w):PL P f N R K H [] env w:=by
  intro l hs hp hH a hf
  exact wpAnyH_done (by simpa [planB] using hp) ⟨rfl,k a hf⟩ 0

theorem PL.head {K:List Item} {plan:List (Nat×Bool)} {t:Nat} {v:Value} (v':Value) {env:Env} {w:World} (hv:v=v') (k:PL P f N R K H plan ((t,v')::env) w):PL P f N R K H plan ((t,v)::env) w:=by
  subst hv;exact k

theorem PB.head {K:List Item} {plan:List (Nat×Bool)} {t:Nat} {v:Value} (v':Value) {env:Env} {w:World} (hv:v=v') (k:PB P f N R K H plan ((t,v')::env) w):PB P f N R K H plan ((t,v)::env) w:=by
  subst hv;exact k

theorem J.drawPlan (H:World→Prop) (plan:List (Nat×Bool)) {w0:World} {L:List Claim} {K:List Item} {env:Env} {w:World} (S:Sep w0 L w) (hm:P.follows .mixedOrders=true) (hd:isDraw K=true) (hp:planOK (bL K) plan=true)
    (k:∀ w',Sep w0 L w'→PB P f N R K H plan env w'):J P f N R K env w:=by
  intro a hf
  simp only[planOK,Bool.and_eq_true,decide_eq_true_eq] at hp
  obtain ⟨⟨hs,hlen⟩,hB⟩:=hp
  have hk:=k _ S.drew
  have h2:=hk.2 _ hs hB hk.1 a hf
  rw[hlen] at h2
  unfold isDraw at hd
  split at hd
  · rename_i id ops k'
    exact Ja.of_wp (wp_region_held (P:=P) (id:=id) (ops:=ops) (Q:=Qn P f R k') (a:=a) (w:=w) hm h2)
  · cases hd
end

def maskE:List Edge→Nat
  | []=>0
  | e::r=>bif Region.binds .any e then Nat.lor (maskE r) (2^e.on) else maskE r
def maskN:List Nat→Nat
  | []=>0
  | t::r=>Nat.lor (maskN r) (2^t)
def sumOf (ops:Array Oper) (o:Oper):Nat×Option Nat×Nat:=(maskE o.after.toList,o.dst,maskN (o.looksAt ops))
def apartT (x y:Nat×Option Nat×Nat):Bool :=
  (match x.2.1 with | some d=> !(Nat.testBit y.2.2 d)&&(match y.2.1 with | some e=> !(Nat.beq d e) | none=>true) | none=>true) &&
  (match y.2.1 with | some d=> !(Nat.testBit x.2.2 d) | none=>true)
def freeT (x:Nat×Option Nat×Nat) (i D:Nat):Nat→List (Nat×Option Nat×Nat)→Bool
  | _,[]=>true
  | j,y::r=>(Nat.beq j i||Nat.testBit D j||Nat.testBit y.1 i||apartT x y)&&freeT x i D (j+1) r
def onlyT (i D:Nat):Nat→List (Nat×Option Nat×Nat)→Bool
  | _,[]=>true
  | j,y::r=>(Nat.beq j i||Nat.testBit D j|| !(Nat.beq (Nat.land y.1 D) y.1))&&onlyT i D (j+1) r
def planT (T:List (Nat×Option Nat×Nat)):List (Nat×Bool)→Nat→Bool
  | [],D=>onlyT T.length D 0 T
  | (i,k)::r,D=>(match T[i]? with
    | some x=> !(Nat.testBit D i)&&Nat.beq (Nat.land x.1 D) x.1&&(bif k then freeT x i D 0 T else onlyT i D 0 T)
    | none=>false)&&planT T r (Nat.lor D (2^i))

theorem maskN_spec (l:List Nat) (d:Nat):(maskN l).testBit d=l.contains d:=by
  induction l with
  | nil=>simp[maskN]
  | cons t r ih =>
    show(maskN r ||| 2^t).testBit d=_
    rw[Nat.testBit_or,ih,Nat.testBit_two_pow,List.contains_cons,Bool.or_comm]
    congr 1
    rw[Bool.eq_iff_iff,decide_eq_true_eq,beq_iff_eq];exact eq_comm
theorem maskE_spec (l:List Edge) (i:Nat):(maskE l).testBit i=l.any fun e=>Region.binds .any e&&e.on==i:=by
  induction l with
  | nil=>simp[maskE]
  | cons e r ih =>
    unfold maskE
    rw[List.any_cons]
    cases hb:Region.binds .any e with
    | false=>simp[ih]
    | true =>
      show(maskE r ||| 2^e.on).testBit i=_
      rw[Nat.testBit_or,ih,Nat.testBit_two_pow,Bool.or_comm]
      congr 1
theorem apartT_spec {ops:Array Oper} {x y:Oper} (h:apartT (sumOf ops x) (sumOf ops y)=true):x.apart ops y=true:=by
  unfold apartT sumOf at h
  simp only[maskN_spec] at h
  unfold Oper.apart
  have nb:∀ a b:Nat,Nat.beq a b=false→b≠a:=fun a b h e=>by subst e;rw[Nat.beq_refl] at h;cases h
  cases hx:x.dst<;>cases hy:y.dst<;>simp_all
theorem land_sub {m D:Nat} (h:Nat.beq (Nat.land m D) m=true) (k:Nat) (hk:m.testBit k=true):D.testBit k=true:=by
  have h2:m &&& D=m:=Nat.eq_of_beq_eq_true h
  have h3:(m &&& D).testBit k=true:=by rw[h2];exact hk
  rw[Nat.testBit_and,Bool.and_eq_true] at h3
  exact h3.2
theorem land_not {m D:Nat} (h:Nat.beq (Nat.land m D) m=false):∃ k,m.testBit k=true∧D.testBit k=false:=by
  apply Classical.byContradiction
  intro hc
  have h2:m &&& D=m:=by
    apply Nat.eq_of_testBit_eq
    intro k
    rw[Nat.testBit_and]
    cases hm:m.testBit k with
    | false=>rfl
    | true =>
      cases hD:D.testBit k with
      | true=>rfl
      | false=>exact absurd ⟨k,hm,hD⟩ hc
  have h3:Nat.beq (m &&& D) m=true:=by rw[h2];exact Nat.beq_refl m
  have h4:Nat.beq (Nat.land m D) m=true:=h3
  rw[h] at h4;cases h4

def Rep (D:Nat) (l:Array Bool):Prop:=∀ j,l.getD j false=D.testBit j

theorem Rep.at {D:Nat} {l:Array Bool} (h:Rep D l) {j:Nat} (hj:j<l.size):l.getD j true=D.testBit j:=by
  have:=h j
  simp[hj] at this ⊢
  exact this

theorem Rep.set {D:Nat} {l:Array Bool} (h:Rep D l) {i:Nat} (hi:i<l.size):Rep (Nat.lor D (2^i)) (l.setIfInBounds i true):=by
  intro j
  show _=(D ||| 2^i).testBit j
  rw[Nat.testBit_or,Nat.testBit_two_pow]
  by_cases e:i=j
  · subst e;simp[hi]
  · rw[getD_set_ne false e,h j];simp[e]

section
variable {ops:Array Oper} {l:Array Bool} {D:Nat}

theorem ready_iff (hr:Rep D l) (hl:l.size=ops.size) {j:Nat} {o:Oper} (ho:ops[j]? =some o) :
    j ∈ Region.ready .any ops l↔D.testBit j=false∧Nat.beq (Nat.land (maskE o.after.toList) D) (maskE o.after.toList)=true:=by
  have hj:j<l.size:=by rw[hl];exact(Array.getElem?_eq_some_iff.1 ho).1
  rw[mem_ready,hr.at hj]
  constructor
  · rintro ⟨h1,o',ho',h2⟩
    rw[ho] at ho';cases ho'
    refine⟨h1,?_⟩
    cases hb:Nat.beq (Nat.land (maskE o.after.toList) D) (maskE o.after.toList) with
    | true=>rfl
    | false =>
      obtain ⟨k,hk1,hk2⟩:=land_not hb
      rw[maskE_spec,List.any_eq_true] at hk1
      obtain ⟨e,he,hbe⟩:=hk1
      simp only[Bool.and_eq_true,beq_iff_eq] at hbe
      have h3:=h2 e (by simpa using he) hbe.1
      rw[hbe.2,hr k,hk2] at h3
      cases h3
  · rintro ⟨h1,h2⟩
    refine⟨h1,o,ho,fun e he hb=>?_⟩
    have h3:(maskE o.after.toList).testBit e.on=true:=by
      rw[maskE_spec,List.any_eq_true]
      exact⟨e,by simpa using he,by simp[hb]⟩
    rw[hr e.on]
    exact land_sub h2 _ h3

theorem onlyT_spec {i:Nat}:∀ (r:List Oper) (j:Nat),onlyT i D j (r.map (sumOf ops))=true→∀ k o,r[k]? =some o→j+k=i∨D.testBit (j+k)=true∨Nat.beq (Nat.land (maskE o.after.toList) D) (maskE o.after.toList)=false:=by
  intro r
  induction r with
  | nil=>intro j _ k o h;simp at h
  | cons x r ih =>
    intro j h k o hk
    simp only[List.map_cons,onlyT,Bool.and_eq_true,Bool.or_eq_true,sumOf] at h
    cases k with
    | zero =>
      simp at hk;subst hk
      rcases h.1 with (h1 | h1) | h1
      · exact .inl (Nat.eq_of_beq_eq_true h1)
      · exact .inr (.inl h1)
      · exact .inr (.inr (by simpa using h1))
    | succ k =>
      have:=ih (j+1) h.2 k o (by simpa using hk)
      rwa [show j+1+k=j+(k+1) by omega] at this

theorem freeT_spec {i:Nat} {x:Oper}:∀ (r:List Oper) (j:Nat),freeT (sumOf ops x) i D j (r.map (sumOf ops))=true→∀ k o,r[k]? =some o→j+k=i∨D.testBit (j+k)=true∨(maskE o.after.toList).testBit i=true∨x.apart ops o=true:=by
  intro r
  induction r with
  | nil=>intro j _ k o h;simp at h
  | cons y r ih =>
    intro j h k o hk
    simp only[List.map_cons,freeT,Bool.and_eq_true,Bool.or_eq_true] at h
    cases k with
    | zero =>
      simp at hk;subst hk
      rcases h.1 with ((h1 | h1) | h1) | h1
      · exact .inl (Nat.eq_of_beq_eq_true h1)
      · exact .inr (.inl h1)
      · exact .inr (.inr (.inl h1))
      · exact .inr (.inr (.inr (apartT_spec h1)))
    | succ k =>
      have:=ih (j+1) h.2 k o (by simpa using hk)
      rwa [show j+1+k=j+(k+1) by omega] at this

theorem filter_one {n i:Nat} {p:Nat→Bool} (hi:i<n) (h1:p i=true) (h2:∀ j,j<n→j≠i→p j=false):(List.range n).filter p=[i]:=by
  induction n with
  | zero=>omega
  | succ n ih =>
    rw[List.range_succ,List.filter_append]
    by_cases e:i=n
    · subst e
      have h3:(List.range i).filter p=[]:=by
        rw[List.filter_eq_nil_iff]
        intro j hj
        simp only[List.mem_range] at hj
        rw[h2 j om om];simp
      rw[h3];simp[h1]
    · rw[ih om fun j hj hne=>h2 j om hne]
      simp[h2 n om (fun h=>e h.symm)]

theorem ready_mem_range {j:Nat} (h:j ∈ Region.ready .any ops l):j<ops.size:=by
  unfold Region.ready at h
  rw[List.mem_filter,List.mem_range] at h
  exact h.1

theorem planT_spec:∀ (plan:List (Nat×Bool)) (l:Array Bool) (D:Nat),Rep D l→l.size=ops.size→planT (ops.toList.map (sumOf ops)) plan D=true→planB ops plan l=true:=by
  intro plan
  induction plan with
  | nil =>
    intro l D hr hl h
    simp only[planT] at h
    show(Region.ready .any ops l).isEmpty=true
    rw[List.isEmpty_iff]
    apply List.eq_nil_iff_forall_not_mem.2
    intro j hj
    have hlt:=ready_mem_range hj
    have ho:ops[j]? =some ops[j]:=by simp[hlt]
    obtain ⟨h1,h2⟩:=(ready_iff hr hl ho).1 hj
    have:=onlyT_spec ops.toList 0 h j ops[j] (by simp[hlt])
    simp only[Nat.zero_add,List.length_map,Array.length_toList] at this
    rcases this with h3 | h3 | h3
    · omega
    · rw[h1] at h3;cases h3
    · rw[h2] at h3;cases h3
  | cons p plan ih =>
    obtain ⟨i,k⟩:=p
    intro l D hr hl h
    simp only[planT,Bool.and_eq_true] at h
    obtain ⟨h1,h2⟩:=h
    cases hx:(ops.toList.map (sumOf ops))[i]? with
    | none=>rw[hx] at h1;cases h1
    | some x =>
      rw[hx] at h1
      rw[List.getElem?_map,Option.map_eq_some_iff] at hx
      obtain ⟨o,ho',rfl⟩:=hx
      have ho:ops[i]? =some o:=by simpa using ho'
      have hlt:i<ops.size:=(Array.getElem?_eq_some_iff.1 ho).1
      simp only[Bool.and_eq_true,Bool.not_eq_true'] at h1
      obtain ⟨⟨h3,h4⟩,h5⟩:=h1
      have hready:i ∈ Region.ready .any ops l:=(ready_iff hr hl ho).2 ⟨h3,h4⟩
      have hrest:=ih (l.setIfInBounds i true) (Nat.lor D (2^i)) (hr.set om) (by simpa using hl) h2
      cases k with
      | true =>
        show(_&&_&&_)=true
        rw[Bool.and_eq_true,Bool.and_eq_true]
        refine⟨⟨by simpa using hready,?_⟩,hrest⟩
        unfold Region.free
        rw[ho]
        simp only[List.all_eq_true,List.mem_range,Bool.or_eq_true,beq_iff_eq]
        intro j hj
        have hoj:ops[j]? =some ops[j]:=by simp[hj]
        rcases freeT_spec ops.toList 0 h5 j ops[j] (by simp[hj]) with h6 | h6 | h6 | h6<;>(try simp only[Nat.zero_add] at h6)
        · exact .inl (.inl h6)
        · exact .inl (.inr (by rw[hr.at om];exact h6))
        · right;rw[hoj]
          rw[maskE_spec,List.any_eq_true] at h6
          obtain ⟨e,he,hb⟩:=h6
          simp only[Bool.or_eq_true]
          exact .inl (Array.any_eq_true'.2 ⟨e,by simpa using he,hb⟩)
        · right;rw[hoj];simp only[Bool.or_eq_true];exact .inr h6
      | false =>
        show(_&&_)=true
        rw[Bool.and_eq_true]
        refine⟨?_,hrest⟩
        rw[decide_eq_true_eq]
        unfold Region.ready at hready ⊢
        rw[List.mem_filter] at hready
        refine filter_one hlt hready.2 fun j hj hne=>?_
        cases hp:(!l.getD j true&&((ops[j]?).map (·.after.all fun e=> !Region.binds .any e||l.getD e.on false)).getD false) with
        | false=>rfl
        | true =>
          exfalso
          have hoj:ops[j]? =some ops[j]:=by simp[hj]
          have hjr:j ∈ Region.ready .any ops l:=by
            unfold Region.ready
            rw[List.mem_filter,List.mem_range]
            exact⟨hj,hp⟩
          obtain ⟨h6,h7⟩:=(ready_iff hr hl hoj).1 hjr
          rcases onlyT_spec ops.toList 0 h5 j ops[j] (by simp[hj]) with h8 | h8 | h8<;>(try simp only[Nat.zero_add] at h8)
          · exact hne h8
          · rw[h6] at h8;cases h8
          · rw[h7] at h8;cases h8

theorem aE {T:List (Nat×Option Nat×Nat)} {plan:List (Nat×Bool)} (hT:ops.toList.map (sumOf ops)=T) (h:(Region.noSelect ops&&Nat.beq plan.length ops.size&&planT T plan 0)=true):planOK ops plan=true:=by
  subst hT
  simp only[Bool.and_eq_true] at h
  unfold planOK
  rw[h.1.1,decide_eq_true (Nat.eq_of_beq_eq_true h.1.2),planT_spec plan _ 0 (fun j=>by rw[getD_replicate_false];simp) (by simp) h.2]
  rfl
end
end Go.Eng

namespace Go.Eng
open Go.RowKit

def vAt:Value→List Nat→Value
  | v,[]=>v
  | .tuple vs,i::p=>vAt (vs.getD i undef) p
  | .agg cs,i::p=>vAt (cs.getD i undef) p
  | _,_=>undef
def gB (v:Value) (p:List Nat):Bool:=match vAt v p with | .bool b=>b | _=>false
def gS (v:Value) (p:List Nat):ByteArray:=match vAt v p with | .string s=>s | _=>ByteArray.empty

section
variable {P:Program} {f:FuncId} {N:Nat} {R:Value→World→Prop}

theorem Sep.nilRow {w0 w:World} {L:List Claim} (h:Sep w0 L w) (e:TypeId) (size:Nat):Sep w0 (row (.slice none 0 0) e size 0 []::L) w:=by
  refine⟨h.below,fun c hc=>?_,fun c hc b hb=>?_,?_⟩
  · rcases List.mem_cons.1 hc with rfl | hc
    · exact World.ownsRow_nil w 0 e size
    · exact h.all c hc
  · rcases List.mem_cons.1 hc with rfl | hc
    · cases hb
    · exact h.fresh c hc b hb
  · exact List.pairwise_cons.2 ⟨fun c _ b hb=>(by cases hb),h.apart⟩

theorem Sep.erase {w0 w:World} {L:List Claim} (h:Sep w0 L w) (i:Nat):Sep w0 (L.eraseIdx i) w:=h.sub (List.eraseIdx_sublist L i)

theorem cE {w:World} {b:Nat} {cs:List Value} {T:TypeId} (h:(box b cs T).holds w):Cells w (some ⟨b,0,none⟩) cs:=fun j v hj=>by
  have h':w.heap[b]? =some (.cells cs.toArray T (0,0)):=h
  refine⟨_,rfl,?_⟩
  have hadd:(⟨b,0,none⟩:Addr).add j=⟨b,j,none⟩:=by unfold Addr.add;split<;>simp_all
  rw[hadd]
  simp[World.cell?,h',hj]

theorem cc {w:World} {b:Nat} {cs:List Value} {T:TypeId} (l:List Int) (h:(box b cs T).holds w) (hc:cs=l.map (Value.int .i64)) (n:Nat) (hn:l.length=n):dj w (some ⟨b,0,none⟩) n l :=
  ⟨hn,by rw[← hc];exact cE h⟩

theorem run_append_row (w:World) (t ty e:TypeId) (i:TypeInfo) (z:Value) (size bytes:Nat) (ht:P.underlying t=some (.slice e)) (hi:P.info? e=some i) (hz:i.zero=some z)
    (hsize:i.size=size) (hby:i.bytes=bytes) (hzs:z.cells.size=size) (hsz:0<size)
    (v:Value) (n:Nat) (xs:List Value) (hown:w.ownsRow 0 e size v n xs)
    (a:Addr) (m c:Nat) (news:List Value) (hl:news.length=m*size) (hnews:∀ j u,news[j]? =some u→w.cell? (a.add j)=some u) (h1:∀ u ∈ news,u.oneCell'=true)
    (h63:n+m≤maxLen) (hbytes:(n+m)*bytes≤140737488355328) :
    ∃ v' w',(Builtin.append_ #[t,t] ty #[v,.slice (some a) m c]).run P w=.ok v' w'∧w'.ownsRow 0 e size v' (n+m) (xs++news)∧w.grownBy w' v.ownBlock ∧
      (∀ b,v'.ownBlock=some b→v.ownBlock=some b∨w.heap.size≤b):=by
  obtain ⟨v',w',hr,ho,hg,_⟩:=run_append_own (P:=P) w 0 t ty e i z size bytes ht hi hz hsize hby hzs hsz v n xs hown a m c news hl hnews h1 h63 hbytes (Nat.zero_le _)
  refine⟨v',w',hr,ho,hg,fun b hb=>?_⟩
  rcases hown.2 with ⟨rfl,rfl⟩ | ⟨g,cap,cur,rfl,_,hgc,hnc,hcm,hcs,htake⟩
  · obtain ⟨v2,w2,hr2,ho2,_,_⟩:=run_append_own (P:=P) w w.heap.size t ty e i z size bytes ht hi hz hsize hby hzs hsz (.slice none 0 0) 0 xs ⟨hown.1,.inl ⟨rfl,rfl⟩⟩ a m c news hl hnews h1 h63 hbytes (Nat.le_refl _)
    rw[hr] at hr2
    cases hr2
    exact .inr (ho2.lt b hb).1
  · by_cases hroom:n+m≤cap
    · have hr2:=run_append_room (P:=P) w t ty e i ht hi g n cap cur hgc a m c news (by rw[hsize];exact hl) hnews h1 hroom (by rw[hsize,hl,hcs,← Nat.add_mul];exact Nat.mul_le_mul_right _ hroom)
      rw[hr] at hr2
      cases hr2
      exact .inl hb
    · have holds:∀ j u,xs[j]? =some u→w.cell? ((⟨g,0,none⟩:Addr).add j)=some u:=hown.cells (g:=g) rfl
      have hsmall:n+m≤9223372036854775807:=by simp only[maxLen] at h63;omega
      have hr2:=run_append_grow (P:=P) w t ty e i z ht hi hz ⟨g,0,none⟩ n cap xs (by rw[hsize];exact hown.1) holds a m c news (by rw[hsize];exact hl) hnews om om (growslice_fits om (by rw[hby];exact hbytes))
      rw[hr] at hr2
      cases hr2
      simp only[Value.ownBlock,Option.some.injEq] at hb
      subst hb
      exact .inr (Nat.le_refl _)

def appAt (N:Nat) (K:List Item) (env:Env):Option (Option Nat×TypeId×Value×Value) :=
  match opAt N K env with
  | some o=>match o.op with
    | .call { callee:=.builtin .append,args,argTypes } =>
      match args.toList,argTypes.toList with
      | [x,y],[t,t']=>if t=t' then some (o.dst,t,ev env x,ev env y) else none
      | _,_=>none
    | _=>none
  | none=>none

def ak {α:Type} (enc:α→List Value) (a:Option Addr) (cap:Nat) (e:TypeId) (size:Nat) (l:List α):Claim:=row (.slice a l.length cap) e size l.length (l.flatMap enc)

theorem OK.append {α:Type} (enc:α→List Value) {w0 w:World} {L:List Claim} (S:Sep w0 L w) (j:Nat) {a:Option Addr} {cap:Nat} {e:TypeId} {size:Nat} (l:List α) (x:α) {K:List Item} {env:Env} (d:Nat) (t:TypeId) (z:Value) (bytes:Nat) (ad:Addr) (c:Nat)
    (hj:L[j]? =some (ak enc a cap e size l)) (h:appAt N K env=some (some d,t,.slice a l.length cap,.slice (some ad) 1 c)) (ht:P.underlying t=some (.slice e))
    (hinfo:(P.info? e).map (fun i=>(i.zero,i.size,i.bytes))=some (some z,size,bytes)) (hzs:z.cells.size=size) (hsz:0<size)
    (hnews:Cells w (some ad) (enc x)) (hl:(enc x).length=size) (h1:(enc x).all (·.oneCell')=true) (hb:(l.length+1)*bytes≤140737488355328∧l.length<140737488355328)
    : ∃ a' cap' w',OK P N K env w (some d) (.slice a' (l++[x]).length cap') w'∧Sep w0 (L.set j (ak enc a' cap' e size (l++[x]))) w':=by
  obtain ⟨i,hi,hzz⟩:=Option.map_eq_some_iff.1 hinfo
  simp only[Prod.mk.injEq] at hzz
  obtain ⟨hz,hsize,hby⟩:=hzz
  have hown:w.ownsRow 0 e size (.slice a l.length cap) l.length (l.flatMap enc):=S.nth j hj
  have hn:∀ q u,(enc x)[q]? =some u→w.cell? (ad.add q)=some u:=fun q u hq=>by
    obtain ⟨p,hp,hc⟩:=hnews q u hq
    cases hp;exact hc
  unfold appAt at h
  split at h
  · rename_i o ho
    split at h
    · rename_i args argTypes hop
      split at h
      · rename_i xo yo t1 t2 hargs hts
        split at h
        · rename_i htt
          subst htt
          simp only[Option.some.injEq,Prod.mk.injEq] at h
          obtain ⟨hd,rfl,hx,hy⟩:=h
          obtain ⟨v',w',hr,ho',hg,hblk⟩:=run_append_row (P:=P) w t1 o.type e i z size bytes ht hi hz hsize hby hzs hsz _ _ _ hown ad 1 c (enc x) om hn (by simpa using h1) (by simp only[maxLen];omega) hb.1
          have hlen:(l++[x]).length=l.length+1:=by simp
          have hfm:l.flatMap enc++enc x=(l++[x]).flatMap enc:=by simp
          rw[hfm,← hlen] at ho'
          obtain ⟨a',cap',rfl,_,_,_,_⟩:=row_cells (v:=v') (e:=e) (size:=size) (n:=(l++[x]).length) (xs:=(l++[x]).flatMap enc) (w:=w') ho'
          have hS:Sep w0 (L.set j (ak enc a' cap' e size (l++[x]))) w':=by
            refine S.set j hj (fun b hb'=>?_) hg.os hg.tape hg.output hg.size (fun b hb1 hb2=>hg.block b hb1 fun e=>hb2 e.symm) ho'
            rcases hblk b hb' with h2 | h2
            · exact .inl h2
            · exact .inr ⟨h2,(ho'.lt b hb').2⟩
          refine⟨a',cap',w',⟨_,ho,hd,.inl ?_⟩,hS⟩
          have ea:args=#[xo,yo]:=by rw[← hargs]
          have et:argTypes=#[t1,t1]:=by rw[← hts]
          subst ea et
          unfold execOp
          simp[hop,resolve,invoke,builtin,hx,hy,hr,Result.andThen]
        · cases h
      · cases h
    · cases h
  · cases h

abbrev aA (x:Int):List Value:=[.int .i64 x]

end
end Go.Eng
namespace Go.Eng
open Go.RowKit Go.ChangeShapes Go.WideShapes Go.ChangeAt

section
variable {H:Type} {enc:TypeId×Value→H} {P:Program} {w:World} {t:TypeId} {cs:List Value}

def Tr {H:Type} (enc:TypeId×Value→H) (P:Program) (w:World) (t:TypeId) (cs:List Value):Prop :=
  ∃ fuel x,DataW.trod enc P w 0 (fun _=>true) true fuel t cs=some x

theorem Tr.of {v:Value} {d:DataW H} {ps:List MemPlace} (h:DataW.Trod enc P w 0 (fun _=>true) true t v d ps):Tr enc P w t v.cells.toList:=by
  obtain ⟨fuel,hf⟩:=h
  exact⟨fuel,_,hf⟩

theorem Tr.int {k:IntKind} (hu:P.underlying t=some (.int k)) (h:Tr enc P w t cs):∃ n,cs=[.int k n]∧k.min≤n∧n≤k.max:=by
  obtain ⟨fuel,x,hf⟩:=h
  cases fuel with
  | zero=>cases hf
  | succ fuel =>
    unfold DataW.trod at hf
    rw[hu] at hf
    split at hf<;>simp_all
    rename_i k' n he
    obtain ⟨⟨rfl,hw⟩,_⟩:=hf
    simpa [Lit.wf] using hw

theorem Tr.bool (hu:P.underlying t=some .bool) (h:Tr enc P w t cs):∃ b,cs=[.bool b]:=by
  obtain ⟨fuel,x,hf⟩:=h
  cases fuel with
  | zero=>cases hf
  | succ fuel =>
    unfold DataW.trod at hf
    rw[hu] at hf
    split at hf<;>simp_all

theorem Tr.string (hu:P.underlying t=some .string) (h:Tr enc P w t cs):∃ s,cs=[.string s]∧s.size≤maxLen:=by
  obtain ⟨fuel,x,hf⟩:=h
  cases fuel with
  | zero=>cases hf
  | succ fuel =>
    unfold DataW.trod at hf
    rw[hu] at hf
    split at hf<;>simp_all

theorem mapM_each {α β:Type} {f:α→Option β}:∀ {l:List α} {ys:List β},l.mapM f=some ys→∀ x ∈ l,∃ y,f x=some y:=by
  intro l
  induction l with
  | nil=>intro ys h x hx;cases hx
  | cons a l ih =>
    intro ys h x hx
    simp only[List.mapM_cons] at h
    cases ha:f a with
    | none=>rw[ha] at h;cases h
    | some b =>
      rw[ha] at h
      cases hl:l.mapM f with
      | none=>rw[hl] at h;cases h
      | some bs =>
        rcases List.mem_cons.1 hx with rfl | hx
        · exact⟨b,ha⟩
        · exact ih hl x hx

theorem Tr.struct {fs:Array Field} (hu:P.underlying t=some (.struct fs)) (h:Tr enc P w t cs):cs.length=P.cellsOf t∧∀ (i:Nat) (f:Field),fs[i]? =some f→Tr enc P w f.type ((cs.drop f.offset).take (P.cellsOf f.type)):=by
  obtain ⟨fuel,x,hf⟩:=h
  cases fuel with
  | zero=>cases hf
  | succ fuel =>
    unfold DataW.trod at hf
    rw[hu] at hf
    simp only at hf
    split at hf
    · rename_i hl
      refine⟨hl,fun i f hi=>?_⟩
      obtain ⟨ys,hy,_⟩:=Option.map_eq_some_iff.1 hf
      obtain ⟨y,hy'⟩:=mapM_each hy f (by simpa using Array.mem_of_getElem? hi)
      exact⟨fuel,y,hy'⟩
    · cases hf

theorem Tr.array {n:Nat} {e:TypeId} (hu:P.underlying t=some (.array n e)) (h:Tr enc P w t cs):cs.length=P.cellsOf t∧∀ i,i<n→Tr enc P w e ((cs.drop (i*P.cellsOf e)).take (P.cellsOf e)):=by
  obtain ⟨fuel,x,hf⟩:=h
  cases fuel with
  | zero=>cases hf
  | succ fuel =>
    unfold DataW.trod at hf
    rw[hu] at hf
    simp only at hf
    split at hf
    · rename_i hl
      refine⟨hl,fun i hi=>?_⟩
      obtain ⟨ys,hy,_⟩:=Option.map_eq_some_iff.1 hf
      obtain ⟨y,hy'⟩:=mapM_each hy i (by simpa using hi)
      exact⟨fuel,y,hy'⟩
    · cases hf

theorem mapM_nth {α β:Type} {f:α→Option β}:∀ {l:List α} {ys:List β},l.mapM f=some ys→ys.length=l.length∧∀ (j:Nat) (a:α) (y:β),l[j]? =some a→ys[j]? =some y→f a=some y:=by
  intro l
  induction l with
  | nil=>intro ys h;simp at h;subst h;simp
  | cons b l ih =>
    intro ys h
    simp only[List.mapM_cons] at h
    cases hb:f b with
    | none=>rw[hb] at h;cases h
    | some u =>
      rw[hb] at h
      cases hl:l.mapM f with
      | none=>rw[hl] at h;cases h
      | some us =>
        rw[hl] at h
        simp at h
        subst h
        obtain ⟨h1,h2⟩:=ih hl
        refine⟨by simp[h1],fun j a y hj hy=>?_⟩
        cases j with
        | zero=>simp at hj hy;subst hj hy;exact hb
        | succ j=>exact h2 j a y (by simpa using hj) (by simpa using hy)

theorem cells?_spec {base:Nat} {a:Addr} {n:Nat} {cs:List Value} (h:w.cells? base a n=some cs):cs.length=n∧∀ j v,cs[j]? =some v→w.cell? (a.add j)=some v:=by
  unfold World.cells? at h
  split at h
  · obtain ⟨h1,h2⟩:=mapM_nth h
    have hn:cs.length=n:=by simpa using h1
    refine⟨hn,fun j v hj=>h2 j j v ?_ hj⟩
    have hj':=(List.getElem?_eq_some_iff.1 hj).1
    simp[show j<n by omega]
  · cases h

theorem Tr.slice {e:TypeId} (hu:P.underlying t=some (.slice e)) (h:Tr enc P w t cs) :
    ∃ a len cap,cs=[.slice a len cap]∧len≤maxLen∧∃ xs:List (List Value),xs.length=len∧(∀ x ∈ xs,x.length=P.cellsOf e∧Tr enc P w e x)∧Cells w a xs.flatten:=by
  obtain ⟨fuel,x,hf⟩:=h
  cases fuel with
  | zero=>cases hf
  | succ fuel =>
    unfold DataW.trod at hf
    rw[hu] at hf
    split at hf<;>try (simp_all;done)
    · rename_i e' he
      exact⟨none,0,0,rfl,by simp[maxLen],[],rfl,by simp,fun j v hj=>by simp at hj⟩
    · rename_i e' a len cap he
      simp only[Option.some.injEq,TypeDesc.slice.injEq] at he
      subst he
      simp only at hf
      split at hf
      · rename_i hb
        cases hm:((List.range len).mapM fun i=>(w.cells? 0 (a.add (i*P.cellsOf e)) (P.cellsOf e)).bind (DataW.trod enc P w 0 (fun _=>true) true fuel e)) with
        | none=>rw[hm] at hf;cases hf
        | some ys =>
          have each:∀ i,i<len→∃ c,w.cells? 0 (a.add (i*P.cellsOf e)) (P.cellsOf e)=some c∧Tr enc P w e c:=fun i hi=>by
            obtain ⟨y,hy⟩:=mapM_each hm i (by simpa using hi)
            obtain ⟨c,hc,ht⟩:=Option.bind_eq_some_iff.1 hy
            exact⟨c,hc,fuel,y,ht⟩
          have build:∀ n,n≤len→∃ xs:List (List Value),xs.length=n∧∀ j c,xs[j]? =some c→w.cells? 0 (a.add (j*P.cellsOf e)) (P.cellsOf e)=some c∧Tr enc P w e c:=by
            intro n
            induction n with
            | zero=>intro _;exact⟨[],rfl,by simp⟩
            | succ n ih =>
              intro hn
              obtain ⟨xs,h1,h2⟩:=ih om
              obtain ⟨c,hc,ht⟩:=each n om
              refine⟨xs++[c],by simp[h1],fun j c' hj=>?_⟩
              rw[List.getElem?_append] at hj
              split at hj
              · exact h2 j c' hj
              · rename_i hlt
                have hj0:j-xs.length=0:=by
                  have:=(List.getElem?_eq_some_iff.1 hj).1
                  simp at this;omega
                rw[hj0] at hj
                simp at hj
                subst hj
                rw[show j=n by omega]
                exact⟨hc,ht⟩
          obtain ⟨xs,h1,h2⟩:=build len (Nat.le_refl _)
          have hlen:∀ x ∈ xs,x.length=P.cellsOf e∧Tr enc P w e x:=fun x hx=>by
            obtain ⟨j,hj⟩:=List.mem_iff_getElem?.1 hx
            obtain ⟨h3,h4⟩:=h2 j x hj
            exact⟨(cells?_spec h3).1,h4⟩
          refine⟨some a,len,cap,rfl,Nat.le_trans hb.2.1 hb.2.2,xs,h1,hlen,?_⟩
          have flat:∀ (zs:List (List Value)) (off:Nat),(∀ z ∈ zs,z.length=P.cellsOf e)→(∀ j c,zs[j]? =some c→w.cells? 0 (a.add ((off+j)*P.cellsOf e)) (P.cellsOf e)=some c) →
              ∀ j v,zs.flatten[j]? =some v→w.cell? (a.add (off*P.cellsOf e+j))=some v:=by
            intro zs
            induction zs with
            | nil=>intro off _ _ j v hj;simp at hj
            | cons z zs ih =>
              intro off hz hc j v hj
              simp only[List.flatten_cons] at hj
              rw[List.getElem?_append] at hj
              have hzl:=hz z (by simp)
              split at hj
              · have:=(cells?_spec (hc 0 z (by simp))).2 j v hj
                rw[de] at this
                simpa using this
              · rename_i hlt
                have:=ih (off+1) (fun z hz'=>hz z (by simp[hz'])) (fun j c hj=>by have:=hc (j+1) c (by simpa using hj);rwa [show off+1+j=off+(j+1) by omega]) (j-z.length) v hj
                rw[show off*P.cellsOf e+j=(off+1)*P.cellsOf e+(j-z.length) by rw[Nat.add_mul];omega]
                exact this
          intro j v hj
          refine⟨a,rfl,?_⟩
          have:=flat xs 0 (fun z hz=>(hlen z hz).1) (fun j c hj=>by have:=(h2 j c hj).1;simpa using this) j v hj
          simpa using this
      · cases hf

theorem Tr.cap {e:TypeId} {a:Option Addr} {len cap:Nat} (hu:P.underlying t=some (.slice e)) (h:Tr enc P w t [.slice a len cap]):len≤cap∧cap≤9223372036854775807:=by
  obtain ⟨fuel,x,hf⟩:=h
  cases fuel with
  | zero=>cases hf
  | succ fuel =>
    unfold DataW.trod at hf
    rw[hu] at hf
    split at hf<;>try (simp_all;done)
    rename_i e' a len cap he hc
    simp only[List.cons.injEq,Value.slice.injEq,and_true] at hc
    obtain ⟨rfl,rfl,rfl⟩:=hc
    simp only at hf
    split at hf
    · rename_i hb
      exact⟨hb.2.1,by have:=hb.2.2;simpa [maxLen] using this⟩
    · cases hf

theorem list_choose {α β:Type} {g:α→β} {Q:α→Prop}:∀ {xs:List β},(∀ x ∈ xs,∃ y,x=g y∧Q y)→∃ l:List α,xs=l.map g∧∀ y ∈ l,Q y:=by
  intro xs
  induction xs with
  | nil=>intro _;exact⟨[],rfl,by simp⟩
  | cons x xs ih =>
    intro h
    obtain ⟨y,hy,hq⟩:=h x (by simp)
    obtain ⟨l,hl,hql⟩:=ih fun z hz=>h z (by simp[hz])
    refine⟨y::l,by simp[hy,hl],fun z hz=>?_⟩
    rcases List.mem_cons.1 hz with rfl | hz
    · exact hq
    · exact hql z hz

theorem Tr.list {α:Type} {e:TypeId} (g:α→List Value) (Q:α→Prop) (hu:P.underlying t=some (.slice e)) (h:Tr enc P w t cs) (he:∀ x,Tr enc P w e x→∃ y,x=g y∧Q y) :
    ∃ a len cap,cs=[.slice a len cap]∧len≤9223372036854775807∧∃ l:List α,l.length=len∧(∀ y ∈ l,Q y)∧Cells w a (l.flatMap g):=by
  obtain ⟨a,len,cap,h1,h2,xs,h3,h4,h5⟩:=Tr.slice hu h
  obtain ⟨l,hl,hq⟩:=list_choose fun x hx=>he x (h4 x hx).2
  subst hl
  exact⟨a,len,cap,h1,by simpa [maxLen] using h2,l,by simpa using h3,hq,by simpa [List.flatMap_def] using h5⟩

theorem Tr.ones {α:Type} {e:TypeId} (g:α→Value) (Q:α→Prop) (hu:P.underlying t=some (.slice e)) (h:Tr enc P w t cs) (he:∀ x,Tr enc P w e x→∃ y,x=[g y]∧Q y) :
    ∃ a len cap,cs=[.slice a len cap]∧len≤9223372036854775807∧∃ l:List α,(∀ y ∈ l,Q y)∧Ones g w a len l:=by
  obtain ⟨a,len,cap,h1,h2,l,h3,h4,h5⟩:=Tr.list (fun y=>[g y]) Q hu h he
  refine⟨a,len,cap,h1,h2,l,h4,h3,?_⟩
  have:l.flatMap (fun y=>[g y])=l.map g:=by
    clear h3 h4 h5
    induction l with
    | nil=>rfl
    | cons x l ih=>simp[List.flatMap_cons,ih]
  rwa [this] at h5

end
end Go.Eng
namespace Go.Eng
open Go.RowKit
variable {P:Program} {f:FuncId} {N:Nat} {R:Value→World→Prop}

def shAt (N:Nat) (K:List Item) (env:Env):Option (Option Nat×BinOp×IntKind×Int×Int) :=
  match opAt N K env with
  | some o=>match o.op with
    | .binOp op _ x y _=>match ev env x,ev env y with
      | .int k a,.int _ b=>some (o.dst,op,k,a,b)
      | _,_=>none
    | _=>none
  | none=>none

theorem OK.shl {K:List Item} {env:Env} {w:World} (d:Nat) (kk:IntKind) (x y r:Int) (h:shAt N K env=some (some d,.shl,kk,x,y)) (hy:0≤y) (hr:kk.wrap (x*2^min y.toNat kk.bits)=r) :
    OK P N K env w (some d) (.int kk r) w:=by
  subst hr
  unfold shAt at h
  split at h
  · rename_i o ho
    split at h
    · rename_i op t xo yo t' hop
      split at h
      · rename_i k1 a k2 b hx hy'
        simp only[Option.some.injEq,Prod.mk.injEq] at h
        obtain ⟨hd,rfl,rfl,rfl,rfl⟩:=h
        refine⟨o,ho,hd,.inl ?_⟩
        unfold execOp
        simp[hop,hx,hy',eqGuard,binOp,Op.shift,Int.not_lt.2 hy]
      · cases h
    · cases h
  · cases h

theorem OK.shr {K:List Item} {env:Env} {w:World} (d:Nat) (kk:IntKind) (x y r:Int) (h:shAt N K env=some (some d,.shr,kk,x,y)) (hy:0≤y) (hr:x.fdiv (2^min y.toNat kk.bits)=r) :
    OK P N K env w (some d) (.int kk r) w:=by
  subst hr
  unfold shAt at h
  split at h
  · rename_i o ho
    split at h
    · rename_i op t xo yo t' hop
      split at h
      · rename_i k1 a k2 b hx hy'
        simp only[Option.some.injEq,Prod.mk.injEq] at h
        obtain ⟨hd,rfl,rfl,rfl,rfl⟩:=h
        refine⟨o,ho,hd,.inl ?_⟩
        unfold execOp
        simp[hop,hx,hy',eqGuard,binOp,Op.shift,Int.not_lt.2 hy]
      · cases h
    · cases h
  · cases h

theorem dT (n:Nat) (x:Int) (m:Int) (hm:m=2^n-1) (hn:n<64) :
    IntKind.wrap .u64 ((BitVec.ofInt 64 x &&& BitVec.ofInt 64 m).toNat:Int)=x%(2^n:Int):=by
  have hp:(0:Int)<2^n:=Int.pow_pos om
  have hle:(2:Int)^n≤2^63:=by exact_mod_cast Nat.pow_le_pow_right om (show n≤63 by omega)
  have hm1:(BitVec.ofInt 64 m).toNat=2^n-1:=by
    have h1:((BitVec.ofInt 64 m).toNat:Int)=m:=by rw[bv_toNat_ofInt,Int.emod_eq_of_lt om om]
    have h2:((2^n-1:Nat):Int)=m:=by
      have:=Nat.one_le_two_pow (n:=n)
      rw[hm];push_cast [this];rfl
    omega
  have h3:((BitVec.ofInt 64 x &&& BitVec.ofInt 64 m).toNat:Int)=x%(2^n:Int):=by
    rw[BitVec.toNat_and,hm1,Nat.and_two_pow_sub_one_eq_mod]
    push_cast
    rw[bv_toNat_ofInt]
    refine Int.emod_emod_of_dvd _ ?_
    exact_mod_cast Nat.pow_dvd_pow 2 (show n≤64 by omega)
  rw[h3]
  have h4:=Int.emod_nonneg x (show(2:Int)^n≠0 by omega)
  have h5:=Int.emod_lt_of_pos x hp
  exact IntWalk.u64_in _ om
def byteAt (s:ByteArray) (i:Nat):Int:=((s.data.toList.getD i 0).toNat:Int)
theorem byteAt_bounds (s:ByteArray) (i:Nat):0≤byteAt s i∧byteAt s i≤255:=by
  unfold byteAt;have:=(s.data.toList.getD i 0).toNat_lt;omega

def sixAt (N:Nat) (K:List Item) (env:Env):Option (Option Nat×TypeId×ByteArray×Int) :=
  match opAt N K env with
  | some o=>match o.op with
    | .index t x y=>match ev env x,ev env y with
      | .string s,.int _ i=>some (o.dst,t,s,i)
      | _,_=>none
    | _=>none
  | none=>none

def isStr (P:Program) (t:TypeId):Bool:=match P.underlying t with
  | some .string=>true
  | _=>false

theorem OK.byte {K:List Item} {env:Env} {w:World} (d:Nat) (t:TypeId) (s:ByteArray) (i r:Int) (h:sixAt N K env=some (some d,t,s,i)) (ht:isStr P t=true) (h0:0≤i) (h1:i<(s.size:Int)) (hr:byteAt s i.toNat=r) :
    OK P N K env w (some d) (.int .u8 r) w:=by
  subst hr
  unfold sixAt at h
  split at h
  · rename_i o ho
    split at h
    · rename_i t' x y hop
      split at h
      · rename_i s' k i' hx hy
        simp only[Option.some.injEq,Prod.mk.injEq] at h
        obtain ⟨hd,rfl,rfl,rfl⟩:=h
        unfold isStr at ht
        split at ht
        · rename_i hu
          refine⟨o,ho,hd,.inl ?_⟩
          unfold execOp
          have hlt:i'.toNat<s'.size:=by omega
          have hb:s'[i'.toNat]? =some (s'.data.toList.getD i'.toNat 0):=by
            rw[getElem?_pos s' i'.toNat hlt]
            have h2:i'.toNat<s'.data.size:=hlt
            have h3:s'.data.toList.getD i'.toNat 0=s'.data[i'.toNat]'h2:=by
              rw[List.getD_eq_getElem?_getD,List.getElem?_eq_getElem (by simpa using h2)]
              simp
            exact congrArg some h3.symm
          simp only[hop,hx,hy,Instr.index,asIntOf,Sem.run_bind,Sem.run_pure,Result.andThen_ok,run_underlying hu w,h0,if_true,hb,byteAt]
        · cases ht
      · cases h
    · cases h
  · cases h

structure Recs {α:Type} (g:α→List Value) (s:Nat) (w:World) (a:Option Addr) (len:Nat) (l:List α):Prop where
  len_eq:l.length=len
  size:∀ x,(g x).length=s
  pos:0<s
  cells:Cells w a (l.flatMap g)

theorem flatMap_at {α:Type} {g:α→List Value} {s:Nat} (hs:∀ x,(g x).length=s) (d:α):∀ (l:List α) (j i:Nat) (v:Value),j<l.length→(g (l.getD j d))[i]? =some v→(l.flatMap g)[j*s+i]? =some v:=by
  intro l
  induction l with
  | nil=>intro j i v hj;simp at hj
  | cons x l ih =>
    intro j i v hj h
    have hi:i<s:=by have:=(List.getElem?_eq_some_iff.1 h).1;rw[hs] at this;exact this
    rw[List.flatMap_cons]
    cases j with
    | zero =>
      rw[List.getElem?_append_left (by rw[hs];omega)]
      simpa using h
    | succ j =>
      rw[List.getElem?_append_right (by rw[hs,Nat.add_mul];omega),hs,show(j+1)*s+i-s=j*s+i by rw[Nat.add_mul];omega]
      exact ih j i v (by simpa using hj) (by simpa using h)

theorem Recs.at {α:Type} {g:α→List Value} {s:Nat} {w:World} {a:Option Addr} {len:Nat} {l:List α} (h:Recs g s w a len l) (d:α) (j:Nat) (hj:j<len) :
    ∃ p,a=some p∧∀ (i:Nat) (v:Value),(g (l.getD j d))[i]? =some v→w.cell? ((p.add (j*s)).add i)=some v:=by
  have key:∀ (i:Nat) (v:Value),(g (l.getD j d))[i]? =some v→∃ p,a=some p∧w.cell? ((p.add (j*s)).add i)=some v:=fun i v hv=>by
    obtain ⟨p,hp,hc⟩:=h.cells _ v (flatMap_at h.size d l j i v (by rw[h.len_eq];exact hj) hv)
    exact⟨p,hp,by rw[de];exact hc⟩
  obtain ⟨p,hp,_⟩:=key 0 ((g (l.getD j d))[0]'(by rw[h.size];exact h.pos)) (by simp[h.size,h.pos])
  refine⟨p,hp,fun i v hv=>?_⟩
  obtain ⟨p',hp',hc⟩:=key i v hv
  rw[hp] at hp';cases hp'
  exact hc

theorem Recs.sep {α:Type} {g:α→List Value} {s:Nat} {w0 w:World} {L:List Claim} {a:Option Addr} {len:Nat} {l:List α} (h:Recs g s w0 a len l) (S:Sep w0 L w):Recs g s w a len l:=⟨h.len_eq,h.size,h.pos,h.cells.sep S⟩
variable {P:Program} {f:FuncId} {N:Nat} {R:Value→World→Prop}

abbrev eP {α:Type} (g:α→Value) (x:α):List Value:=[g x]

theorem flatMap_enc1 {α:Type} (g:α→Value) (l:List α):l.flatMap (eP g)=l.map g:=by
  induction l with
  | nil=>rfl
  | cons x l ih=>simp[List.flatMap_cons,ih]

theorem ed {α:Type} {enc:α→List Value} {w:World} {a:Option Addr} {cap:Nat} {e:TypeId} {size:Nat} {l:List α} (h:(ak enc a cap e size l).holds w):Cells w a (l.flatMap enc)∧(a=none→l=[])∧l.length≤cap:=by
  obtain ⟨a',cap',he,hc,h1,_⟩:=row_cells h
  cases he
  refine⟨hc,fun hn=>?_,h1⟩
  subst hn
  have h':w.ownsRow 0 e size (.slice none l.length cap) l.length (l.flatMap enc):=h
  rcases h'.2 with ⟨h2,_⟩ | ⟨g,c,cur,h2,_⟩
  · simp only[Value.slice.injEq] at h2;exact List.eq_nil_of_length_eq_zero h2.2.1
  · simp at h2

theorem aC {α:Type} {enc:α→List Value} {w:World} {a:Option Addr} {cap:Nat} {e:TypeId} {size:Nat} {l:List α} (h:(ak enc a cap e size l).holds w):l.length≤9223372036854775807:=by
  obtain ⟨a',cap',he,hc,h1,h2,_⟩:=row_cells h
  simp only[maxLen] at h2;omega

theorem aD {α:Type} {g:α→Value} {w:World} {a:Option Addr} {cap:Nat} {e:TypeId} {l:List α} (h:(ak (eP g) a cap e 1 l).holds w) (n:Nat) (hn:l.length=n):Ones g w a n l :=
  ⟨hn,by rw[← flatMap_enc1];exact(ed h).1⟩

theorem bK {α:Type} {g:α→Value} {w:World} {a:Option Addr} {cap:Nat} {e:TypeId} {l:List α} (h:(ak (eP g) a cap e 1 l).holds w) (hl:0<l.length):∃ p,a=some p:=by
  cases a with
  | some p=>exact⟨p,rfl⟩
  | none=>have:=(ed h).2.1 rfl;subst this;simp at hl

theorem ct {α:Type} {g:α→Value} {w0 w:World} {L:List Claim} (S:Sep w0 L w) (j:Nat) {a:Option Addr} {cap:Nat} {e:TypeId} {l:List α} (hj:L[j]? =some (ak (eP g) a cap e 1 l)) {p:Addr} (hp:a=some p) (d:α) (i:Nat) (hi:i<l.length) :
    w.cell? (p.add i)=some (g (l.getD i d)):=by
  obtain ⟨p',hp',hc⟩:=(aD (S.nth j hj) _ rfl).at d i hi
  rw[hp] at hp';cases hp'
  exact hc

theorem Sep.setRow1 {α:Type} (g:α→Value) (hg1:∀ x,(g x).cells=#[g x]∧(g x).oneCell'=true) {w0 w:World} {L:List Claim} (S:Sep w0 L w) (j:Nat) {a:Option Addr} {cap:Nat} {e:TypeId} {l:List α} (hj:L[j]? =some (ak (eP g) a cap e 1 l)) (i:Nat) (hi:i<l.length) (x:α) {t:TypeId} {p:Addr} (hp:a=some p)
    (ht:(P.info? t).map (·.size)=some 1):∃ w',(storeVar t (p.add i) (g x)).run P w=.ok () w'∧Sep w0 (L.set j (ak (eP g) a cap e 1 (l.set i x))) w':=by
  have hown:w.ownsRow 0 e 1 (.slice a l.length cap) l.length (l.flatMap (eP g)):=S.nth j hj
  rcases hown.2 with ⟨h0,h1⟩ | ⟨gb,cap',cur,he,_,hg,hnc,hcm,hcs,htake⟩
  · omega
  · simp only[Value.slice.injEq] at he
    obtain ⟨rfl,_,rfl⟩:=he
    cases hp
    have hadd:(⟨gb,0,none⟩:Addr).add i=⟨gb,i,none⟩:=by unfold Addr.add;split<;>simp_all
    have hsz:cur.size=cap:=by rw[hcs];omega
    have hst:=run_storeVar (P:=P) (w:=w) (t:=t) (T:=e) (b:=gb) (off:=i) (cs:=cur.toList) (cs':=cur.toList.take i++[g x]++cur.toList.drop (i+1)) (v:=g x) (by simpa using hg) (by simpa [(hg1 x).1] using ht) (by
      have hle:Nat.ble (i+1) cap=true:=(by rw[Nat.ble_eq];omega)
      simp[stV,(hg1 x).1,(hg1 x).2,hsz,hle])
    rw[hadd]
    refine⟨_,hst,?_⟩
    have hnew:(cur.toList.take i++[g x]++cur.toList.drop (i+1))=cur.toList.set i (g x):=by
      rw[List.set_eq_take_append_cons_drop,if_pos (by simp;omega)]
      simp
    refine S.set j hj (fun b hb=>.inl hb) rfl rfl rfl (by simp) (fun b _ hb=>heap_setRow_ne _ _ _ _ fun e=>hb (by rw[e];rfl)) ?_
    show(w.setRow gb _).ownsRow 0 e 1 (.slice (some ⟨gb,0,none⟩) (l.set i x).length cap) (l.set i x).length ((l.set i x).flatMap (eP g))
    refine⟨by simp[flatMap_enc1],.inr ⟨gb,cap,_,by simp,Nat.zero_le _,setRow_heap w gb cur _ e (0,0) hg,by simpa using hnc,hcm,?_,?_⟩⟩
    · rw[hnew];simp[hsz]
    · rw[hnew]
      simp only[flatMap_enc1,List.length_set,Nat.mul_one] at htake ⊢
      rw[List.take_set,htake,List.map_set]

theorem dO (k:IntKind) (x:Int):(Value.int k x).cells=#[.int k x]∧(Value.int k x).oneCell'=true:=⟨rfl,rfl⟩
theorem bool_one (x:Bool):(Value.bool x).cells=#[.bool x]∧(Value.bool x).oneCell'=true:=⟨rfl,rfl⟩
theorem box_row {α:Type} (enc:α→List Value) {w0 w:World} {L:List Claim} (S:Sep w0 L w) (i:Nat) {b:Nat} {cs:List Value} {e:TypeId} (l:List α) (size:Nat) (hi:L[i]? =some (box b cs e)) (hc:l.flatMap enc=cs) (hs:cs.length=l.length*size) (hm:l.length≤maxLen) (hb:b<w.heap.size∨True) :
    Sep w0 (L.set i (ak enc (some ⟨b,0,none⟩) l.length e size l)) w:=by
  have h:w.heap[b]? =some (.cells cs.toArray e (0,0)):=S.nth i hi
  refine S.set i hi (fun b' hb'=>.inl ?_) rfl rfl rfl (Nat.le_refl _) (fun _ _ _=>rfl) ?_
  · simpa [ak,row,Value.ownBlock,eq_comm,box] using hb'
  · show w.ownsRow 0 e size (.slice (some ⟨b,0,none⟩) l.length l.length) l.length (l.flatMap enc)
    refine⟨by rw[hc,hs],.inr ⟨b,l.length,cs.toArray,rfl,Nat.zero_le _,h,Nat.le_refl _,hm,by simp[hs],?_⟩⟩
    rw[hc,List.take_of_length_le (by simp[hs])]

theorem run_append_none (w:World) (t ty e:TypeId) (i:TypeInfo) (ht:P.underlying t=some (.slice e)) (hi:P.info? e=some i) (base:Option Addr) (n cap:Nat) (hb:base=none→n*i.size=0) (hn:n≤cap) (c:Nat) :
    (Builtin.append_ #[t,t] ty #[.slice base n cap,.slice none 0 c]).run P w=.ok (.slice base n cap) w:=by
  cases base with
  | none=>simp[Builtin.append_,run_underlying ht,sizeOf,typeInfo,hi,Builtin.lenOf,Builtin.firstCells,hn]
  | some a=>simp[Builtin.append_,run_underlying ht,sizeOf,typeInfo,hi,Builtin.lenOf,Builtin.firstCells,hn,storeCells]

theorem set_self {α:Type} {L:List α} {j:Nat} {c:α} (h:L[j]? =some c):L.set j c=L:=by
  apply List.ext_getElem?
  intro i
  rw[List.getElem?_set]
  split
  · rename_i e;subst e
    rw[h,if_pos (List.getElem?_eq_some_iff.1 h).1]
  · rfl
theorem OK.appendL {α:Type} (enc:α→List Value) {w0 w:World} {L:List Claim} (S:Sep w0 L w) (j:Nat) {a:Option Addr} {cap:Nat} {e:TypeId} {size:Nat} (l ys:List α) {K:List Item} {env:Env} (d:Nat) (t:TypeId) (z:Value) (bytes:Nat) (x:Option Addr) (c:Nat)
    (hj:L[j]? =some (ak enc a cap e size l)) (h:appAt N K env=some (some d,t,.slice a l.length cap,.slice x ys.length c)) (ht:P.underlying t=some (.slice e))
    (hinfo:(P.info? e).map (fun i=>(i.zero,i.size,i.bytes))=some (some z,size,bytes)) (hzs:z.cells.size=size) (hsz:0<size)
    (hnews:Cells w x (ys.flatMap enc)) (hx:x=none→ys=[]) (hl:∀ y,(enc y).length=size) (h1:∀ y,(enc y).all (·.oneCell')=true) (hb:(l.length+ys.length)*bytes≤140737488355328∧l.length+ys.length≤140737488355328)
    : ∃ a' cap' w',OK P N K env w (some d) (.slice a' (l++ys).length cap') w'∧Sep w0 (L.set j (ak enc a' cap' e size (l++ys))) w':=by
  obtain ⟨i,hi,hzz⟩:=Option.map_eq_some_iff.1 hinfo
  simp only[Prod.mk.injEq] at hzz
  obtain ⟨hz,hsize,hby⟩:=hzz
  have hown:w.ownsRow 0 e size (.slice a l.length cap) l.length (l.flatMap enc):=S.nth j hj
  have hlen:∀ zs:List α,(zs.flatMap enc).length=zs.length*size:=by
    intro zs
    induction zs with
    | nil=>simp
    | cons y zs ih=>simp[List.flatMap_cons,ih,hl,Nat.add_mul];omega
  have hall:∀ u ∈ ys.flatMap enc,u.oneCell'=true:=by
    intro u hu
    obtain ⟨y,_,hy⟩:=List.mem_flatMap.1 hu
    have:=h1 y
    rw[List.all_eq_true] at this
    exact this u hy
  unfold appAt at h
  split at h
  · rename_i o ho
    split at h
    · rename_i args argTypes hop
      split at h
      · rename_i xo yo t1 t2 hargs hts
        split at h
        · rename_i htt
          subst htt
          simp only[Option.some.injEq,Prod.mk.injEq] at h
          obtain ⟨hd,rfl,hx',hy⟩:=h
          have ea:args=#[xo,yo]:=by rw[← hargs]
          have et:argTypes=#[t1,t1]:=by rw[← hts]
          subst ea et
          cases x with
          | none =>
            have hys:=hx rfl
            subst hys
            have hcl:=ed (S.nth j hj)
            have hr:=run_append_none (P:=P) w t1 o.type e i ht hi a l.length cap (fun hn=>by have:=hcl.2.1 hn;subst this;simp) hcl.2.2 c
            have hS:Sep w0 (L.set j (ak enc a cap e size (l++[]))) w:=by
              have:L.set j (ak enc a cap e size (l++[]))=L:=by
                rw[List.append_nil]
                exact set_self hj
              rw[this];exact S
            refine⟨a,cap,w,⟨_,ho,hd,.inl ?_⟩,hS⟩
            unfold execOp
            simp only[List.length_nil] at hy
            simp[hop,resolve,invoke,builtin,hx',hy,hr,Result.andThen]
          | some ad =>
            have hn:∀ q u,(ys.flatMap enc)[q]? =some u→w.cell? (ad.add q)=some u:=fun q u hq=>by
              obtain ⟨p,hp,hc⟩:=hnews q u hq
              cases hp;exact hc
            obtain ⟨v',w',hr,ho',hg,hblk⟩:=run_append_row (P:=P) w t1 o.type e i z size bytes ht hi hz hsize hby hzs hsz _ _ _ hown ad ys.length c (ys.flatMap enc) (hlen ys) hn hall (by simp only[maxLen];omega) hb.1
            have hlen:(l++ys).length=l.length+ys.length:=by simp
            have hfm:l.flatMap enc++ys.flatMap enc=(l++ys).flatMap enc:=by simp
            rw[hfm,← hlen] at ho'
            obtain ⟨a',cap',rfl,_,_,_,_⟩:=row_cells (v:=v') (e:=e) (size:=size) (n:=(l++ys).length) (xs:=(l++ys).flatMap enc) (w:=w') ho'
            have hS:Sep w0 (L.set j (ak enc a' cap' e size (l++ys))) w':=by
              refine S.set j hj (fun b hb'=>?_) hg.os hg.tape hg.output hg.size (fun b hb1 hb2=>hg.block b hb1 fun e=>hb2 e.symm) ho'
              rcases hblk b hb' with h2 | h2
              · exact .inl h2
              · exact .inr ⟨h2,(ho'.lt b hb').2⟩
            refine⟨a',cap',w',⟨_,ho,hd,.inl ?_⟩,hS⟩
            unfold execOp
            simp[hop,resolve,invoke,builtin,hx',hy,hr,Result.andThen]
        · cases h
      · cases h
    · cases h
  · cases h

theorem front_perm {α:Type} {c:α}:∀ (L:List α) (j:Nat),L[j]? =some c→(c::L.eraseIdx j).Perm L:=by
  intro L
  induction L with
  | nil=>intro j h;simp at h
  | cons x L ih =>
    intro j h
    cases j with
    | zero=>simp at h;subst h;simp
    | succ j =>
      rw[List.eraseIdx_cons_succ]
      exact(List.Perm.swap x c _).trans ((ih j (by simpa using h)).cons x)
theorem Sep.front {w0 w:World} {L:List Claim} (S:Sep w0 L w) (j:Nat) {c:Claim} (hj:L[j]? =some c):Sep w0 (c::L.eraseIdx j) w:=by
  have hlt:=(List.getElem?_eq_some_iff.1 hj).1
  have hc:=(List.getElem?_eq_some_iff.1 hj).2
  have hp:(c::L.eraseIdx j).Perm L:=by
    clear hlt hc S
    exact front_perm L j hj
  refine⟨S.below,fun d hd=>S.all d (hp.mem_iff.1 hd),fun d hd=>S.fresh d (hp.mem_iff.1 hd),?_⟩
  exact hp.symm.pairwise S.apart fun h b hb hb'=>h b hb' hb

theorem Sep.pick {w0 w:World} {L:List Claim} (S:Sep w0 L w) (j:Nat) {c:Claim} (hj:L[j]? =some c):Sep w0 [c] w :=
  (S.front j hj).sub (List.Sublist.cons_cons _ (List.nil_sublist _))

theorem dG {w w':World} {b:Nat} {cs:List Value} {T:TypeId} (h:(box b cs T).holds w) (S:Sep w [] w'):(box b cs T).holds w':=by
  have h':w.heap[b]? =some (.cells cs.toArray T (0,0)):=h
  exact(box b cs T).stable w w' (fun b' hb'=>S.below.block b' (by have e:b'=b:=hb';rw[e];exact(Array.getElem?_eq_some_iff.1 h').1)) h

theorem OK.ldRo {w0 w:World} {L:List Claim} (S:Sep w0 L w) {b:Nat} {cs:List Value} {T:TypeId} (hb:(box b cs T).holds w0) {K:List Item} {env:Env} (d:Nat) (t:TypeId) (off:Nat) (v:Value)
    (h:ldAt N K env=some (some d,t,⟨b,off,none⟩)) (hv:ldV P t off cs=some v):OK P N K env w (some d) v w :=
  OK.load v h (aS (dG hb S.nil) hv)

theorem aP {α:Type} {l:List α} {Q:α→Prop} (h:∀ y ∈ l,Q y) {n:Nat} (d:α) (hn:n<l.length):Q (l.getD n d):=by
  have:l.getD n d=l[n]:=by simp[List.getD,hn]
  rw[this];exact h _ (List.getElem_mem hn)

def cG {α:Type} (q:α→Bool) (l:List α):Int:=match l.findIdx? q with | some i=>i | none=> -1
theorem dv {α:Type} {q:α→Bool} {l:List α} (d:α) (i:Nat) (hi:i<l.length) (h1:∀ j,j<i→q (l.getD j d)=false) (h2:q (l.getD i d)=true):cG q l=i:=by
  unfold cG
  have:l.findIdx? q=some i:=by
    rw[List.findIdx?_eq_some_iff_getElem]
    refine⟨hi,by simpa [List.getD,hi] using h2,fun j hj=>?_⟩
    have:=h1 j hj
    simp[List.getD,show j<l.length by omega] at this
    simp[this]
  rw[this]
theorem dK {α:Type} {q:α→Bool} {l:List α} (d:α) (h1:∀ j,j<l.length→q (l.getD j d)=false):cG q l= -1:=by
  unfold cG
  have:l.findIdx? q=none:=by
    rw[List.findIdx?_eq_none_iff]
    intro x hx
    obtain ⟨j,hj,rfl⟩:=List.mem_iff_getElem.1 hx
    have:=h1 j hj
    simpa [List.getD,hj] using this
  rw[this]
theorem dh {α:Type} {q:α→Bool} {l:List α}:decide (cG q l≥0)=l.any q:=by
  unfold cG
  cases h:l.findIdx? q with
  | none =>
    rw[List.findIdx?_eq_none_iff] at h
    have:l.any q=false:=by rw[List.any_eq_false];intro x hx;simp[h x hx]
    rw[this];decide
  | some i =>
    rw[List.findIdx?_eq_some_iff_getElem] at h
    obtain ⟨hi,h2,_⟩:=h
    have:l.any q=true:=List.any_eq_true.2 ⟨_,List.getElem_mem hi,h2⟩
    rw[this];simp
def slAt (N:Nat) (K:List Item) (env:Env):Option (Option Nat×TypeId×Value×Option Value×Option Value) :=
  match opAt N K env with
  | some o=>match o.op with
    | .slice t x lo hi none=>some (o.dst,t,ev env x,lo.map (ev env),hi.map (ev env))
    | _=>none
  | none=>none

def subA (a:Option Addr) (cap l size:Nat):Option Addr:=if cap=l then a else a.map (·.add (l*size))

theorem subA_zero (a:Option Addr) (cap size:Nat):subA a cap 0 size=a:=by
  unfold subA
  split
  · rfl
  · cases a<;>simp[Addr.add]

theorem OK.slice {K:List Item} {env:Env} {w:World} (d:Nat) (t:TypeId) (size:Nat) (a:Option Addr) (len cap:Nat) (lo hi:Option Value) (l r:Nat) (h:slAt N K env=some (some d,t,.slice a len cap,lo,hi)) (hs:elemSize P t=some size)
    (hlo:(lo=none∧l=0)∨∃ k i,lo=some (.int k i)∧i=(l:Int)) (hhi:(hi=none∧r=len)∨∃ k i,hi=some (.int k i)∧i=(r:Int)) (hlr:l≤r) (hrc:r≤cap) :
    OK P N K env w (some d) (.slice (subA a cap l size) (r-l) (cap-l)) w:=by
  unfold slAt at h
  split at h
  · rename_i o ho
    split at h
    · rename_i t' x lo' hi' hop
      simp only[Option.some.injEq,Prod.mk.injEq] at h
      obtain ⟨hd,rfl,hx,rfl,rfl⟩:=h
      unfold elemSize at hs
      split at hs
      · rename_i e hu
        obtain ⟨info,hinfo,hsz⟩:=Option.map_eq_some_iff.1 hs
        refine⟨o,ho,hd,.inl ?_⟩
        unfold execOp
        have key:(Instr.sliceBounds true len cap (lo'.map (ev env)) (hi'.map (ev env)) none).run P w=.ok (l,r,cap) w:=by
          unfold Instr.sliceBounds
          rcases hlo with ⟨e1,rfl⟩ | ⟨k1,i1,e1,rfl⟩<;>rcases hhi with ⟨e2,rfl⟩ | ⟨k2,i2,e2,rfl⟩
          · simp[e1,e2]
          · have h2:(0:Int)≤(r:Int)∧(r:Int)≤(cap:Int):=by omega
            simp[e1,e2,Instr.sliceBound,asIntOf,h2,hrc]
          · have h2:(0:Int)≤(l:Int)∧(l:Int)≤(r:Int):=by omega
            simp[e1,e2,Instr.sliceBound,asIntOf,h2,hlr]
          · have h2:(0:Int)≤(r:Int)∧(r:Int)≤(cap:Int):=by omega
            have h3:(0:Int)≤(l:Int)∧(l:Int)≤(r:Int):=by omega
            simp[e1,e2,Instr.sliceBound,asIntOf,h2,h3,hrc,hlr]
        have hsub:(if cap-l=0∧cap=l then a else a)=a:=by split<;>rfl
        simp only[hop,hx,Instr.sliceAt,Instr.slice,Sem.run_bind,run_underlying hu w,Result.andThen_ok,Option.map_none,key,run_sizeOf hinfo w,Sem.run_pure,hsz,subA]
      · cases hs
    · cases h
  · cases h

theorem Ones.take {α:Type} {g:α→Value} {w:World} {a:Option Addr} {len:Nat} {l:List α} (h:Ones g w a len l) (n:Nat) (hn:n≤len):Ones g w a n (l.take n):=by
  refine⟨by rw[List.length_take,h.len_eq];omega,fun j v hj=>h.cells j v ?_⟩
  rw[List.map_take,List.getElem?_take] at hj
  split at hj
  · exact hj
  · cases hj

theorem Recs.take {α:Type} {g:α→List Value} {s:Nat} {w:World} {a:Option Addr} {len:Nat} {l:List α} (h:Recs g s w a len l) (n:Nat) (hn:n≤len):Recs g s w a n (l.take n):=by
  refine⟨by rw[List.length_take,h.len_eq];omega,h.size,h.pos,fun j v hj=>h.cells j v ?_⟩
  have hsplit:l.flatMap g=(l.take n).flatMap g++(l.drop n).flatMap g:=by rw[← List.flatMap_append,List.take_append_drop]
  rw[hsplit,List.getElem?_append_left (List.getElem?_eq_some_iff.1 hj).1]
  exact hj

def pixAt (N:Nat) (K:List Item) (env:Env):Option (Option Nat×TypeId×Addr×Int) :=
  match opAt N K env with
  | some o=>match o.op with
    | .indexAddr t x y=>match ev env x,ev env y with
      | .pointer (some a),.int _ i=>some (o.dst,t,a,i)
      | _,_=>none
    | _=>none
  | none=>none

def arrOf (P:Program) (t:TypeId):Option (Nat×Nat) :=
  match P.underlying t with
  | some (.array n e)=>(P.info? e).map fun i=>(n,i.size)
  | _=>none

theorem OK.indexP {K:List Item} {env:Env} {w:World} (d:Nat) (t:TypeId) (n s b:Nat) (off:Nat) (i:Nat) (ii:Int) (h:pixAt N K env=some (some d,t,⟨b,off,none⟩,ii)) (hs:arrOf P t=some (n,s))
    (hi:ii=i) (hl:i<n):OK P N K env w (some d) (.pointer (some ⟨b,off+i*s,none⟩)) w:=by
  unfold pixAt at h
  split at h
  · rename_i o ho
    split at h
    · rename_i t' x y hop
      split at h
      · rename_i a kk i' hx hy
        simp only[Option.some.injEq,Prod.mk.injEq] at h
        obtain ⟨hd,rfl,rfl,rfl⟩:=h
        subst hi
        unfold arrOf at hs
        split at hs
        · rename_i m e hu
          obtain ⟨info,hinfo,hsz⟩:=Option.map_eq_some_iff.1 hs
          simp only[Prod.mk.injEq] at hsz
          obtain ⟨rfl,hsz⟩:=hsz
          refine⟨o,ho,hd,.inl ?_⟩
          unfold execOp
          have h0:(0:Int)≤(i:Int)∧(i:Int)<(m:Int):=⟨om,om⟩
          have hadd:(⟨b,off,none⟩:Addr).add (i*s)=⟨b,off+i*s,none⟩:=by unfold Addr.add;split<;>simp_all
          simp only[hop,hx,hy,Instr.indexAt,Instr.sureAddr,asIntOf,Sem.run_bind,Sem.run_pure,Result.andThen_ok,run_underlying hu w,h0,and_self,if_true,run_sizeOf hinfo w,Int.toNat_natCast,hsz,hadd]
        · cases hs
      · cases h
    · cases h
  · cases h

theorem cell_zero {w:World} {p:Addr} {v:Value} (h:w.cell? (p.add 0)=some v):w.cell? p=some v:=by
  have:p.add 0=p:=by simp[Addr.add]
  rwa [this] at h
end Go.Eng
