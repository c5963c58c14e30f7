/- The proof engine, fourth part: regions that draw their order, order by order. Conditions: none; it is generic in the program. -/
import Derived.Test.YtempepmfifljmaaEng3
import Derived.OrdersHeld
namespace Go.Eng
set_option linter.unusedSimpArgs false
set_option linter.unusedVariables false
open Go.RowKit

section
variable {P : Program} {f : FuncId} {N : Nat} {R : Value → World → Prop}

/-- the region's rest, whatever is ready being taken next; 'l': what has been done; 'H': what holds of the world behind every operation -/
def WA (P : Program) (f : FuncId) (N : Nat) (R : Value → World → Prop) (K : List Item) (H : World → Prop) (fuel : Nat) (l : Array Bool) (env : Env) (w : World) : Prop :=
  H w → ∀ a, Fits N env a → wpAnyH P .any (rOps K) (Qn P f R (rRest K)) H fuel l a w

/-- the same, with 'H' to be shown first -/
def WB (P : Program) (f : FuncId) (N : Nat) (R : Value → World → Prop) (K : List Item) (H : World → Prop) (fuel : Nat) (l : Array Bool) (env : Env) (w : World) : Prop :=
  H w ∧ WA P f N R K H fuel l env w

/-- operation i comes next -/
def WO (P : Program) (f : FuncId) (N : Nat) (R : Value → World → Prop) (K : List Item) (H : World → Prop) (fuel : Nat) (l : Array Bool) (i : Nat) (env : Env) (w : World) : Prop :=
  ∀ a, Fits N env a → wpOp P (rOps K) (Qn P f R (rRest K)) i (fun a' w' => H w' ∧ wpAnyH P .any (rOps K) (Qn P f R (rRest K)) H fuel l a' w') a w

def AllW (P : Program) (f : FuncId) (N : Nat) (R : Value → World → Prop) (K : List Item) (H : World → Prop) (fuel : Nat) (l : Array Bool) (env : Env) (w : World) : List Nat → Prop
  | [] => True
  | i :: r => WO P f N R K H fuel (l.setIfInBounds i true) i env w ∧ AllW P f N R K H fuel l env w r

variable {H : World → Prop}

theorem WB.mk {K : List Item} {fuel : Nat} {l : Array Bool} {env : Env} {w : World} (h : H w) (k : WA P f N R K H fuel l env w) : WB P f N R K H fuel l env w := ⟨h, k⟩

theorem WB.out {K : List Item} {fuel : Nat} {l : Array Bool} {env : Env} {w : World} {a : Act} (k : WB P f N R K H fuel l env w) (hf : Fits N env a) : H w ∧ wpAnyH P .any (rOps K) (Qn P f R (rRest K)) H fuel l a w := ⟨k.1, k.2 k.1 a hf⟩

theorem WA.all {K : List Item} {fuel : Nat} {l : Array Bool} {env : Env} {w : World} (rs : List Nat) (hr : Region.ready .any (rOps K) l = rs) (hne : rs.isEmpty = false) (h : AllW P f N R K H fuel l env w rs) : WA P f N R K H (fuel + 1) l env w := by
  intro _ a hf
  refine wpAnyH_all hr (by cases rs <;> simp_all) fun i hi => ?_
  clear hr hne
  induction rs with
  | nil => cases hi
  | cons j r ih =>
    rcases List.mem_cons.1 hi with rfl | hi
    · exact h.1 a hf
    · exact ih h.2 hi

theorem WO.set {K : List Item} {fuel : Nat} {l : Array Bool} {i : Nat} {env : Env} {w : World} (l' : Array Bool) (hl : l = l') (k : WO P f N R K H fuel l' i env w) : WO P f N R K H fuel l i env w := by
  subst hl; exact k

theorem WO.ok {K : List Item} {fuel : Nat} {l : Array Bool} {i : Nat} {env : Env} {w w' : World} {d : Option Nat} {v : Value} (h : OK P N (rItem (rOps K) i) env w d v w') (k : WB P f N R K H fuel l (put env d v) w') : WO P f N R K H fuel l i env w := by
  intro a hf
  obtain ⟨o, ho, rfl, hr⟩ := h
  obtain ⟨hi, hw, he, hfit⟩ := opAt_rItem ho hf
  unfold wpOp
  simp only [hi, hw, if_true]
  refine .inl ?_
  unfold Oper.wp
  rw [he]
  rcases hr with hr | ⟨rfl, hr⟩
  · rw [hr]; exact k.out (hfit v)
  · rw [hr]; exact k.out (hfit undef)

theorem WO.pass {K : List Item} {fuel : Nat} {l : Array Bool} {i : Nat} {env : Env} {w : World} {d : Option Nat} (h : passAt N (rOps K) i env = some d) (k : WB P f N R K H fuel l (put env d undef) w) : WO P f N R K H fuel l i env w := by
  intro a hf
  obtain ⟨o, hi, rfl, hw, hfit⟩ := passAt_spec h hf
  unfold wpOp
  simp only [hi, hw, Bool.false_eq_true, if_false]
  exact k.out hfit

theorem WO.stBox {w0 w : World} {L : List Claim} (S : Sep w0 L w) (i : Nat) {b : Nat} {cs : List Value} {T : TypeId} {K : List Item} {fuel : Nat} {l : Array Bool} {j : Nat} {env : Env} (t : TypeId) (off : Nat) (v : Value) (cs' : List Value) (L' : List Claim)
    (h : stAt N (rItem (rOps K) j) env = some (none, t, ⟨b, off, none⟩, v)) (hi : L[i]? = some (box b cs T)) (hs : (P.info? t).map (·.size) = some v.cells.size) (hv : stV off v.cells.toList cs = some cs')
    (hL : L.set i (box b cs' T) = L')
    (k : ∀ w', Sep w0 L' w' → WB P f N R K H fuel l env w') : WO P f N R K H fuel l j env w := by
  subst hL
  exact WO.ok (OK.store _ h (run_storeVar (S.nth i hi) hs hv)) (k _ (S.setBox i cs' hi))

theorem WO.new {w0 w : World} {L : List Claim} (S : Sep w0 L w) (d : Nat) (cs : List Value) (T : TypeId) {K : List Item} {fuel : Nat} {l : Array Bool} {j : Nat} {env : Env}
    (h : opRun P N (rItem (rOps K) j) env w = some (some d, .ok (.value (.pointer (some ⟨w.heap.size, 0, none⟩))) (w.alloc (.cells cs.toArray T))))
    (k : ∀ b w', Sep w0 (box b cs T :: L) w' → WB P f N R K H fuel l ((d, .pointer (some ⟨b, 0, none⟩)) :: env) w') : WO P f N R K H fuel l j env w := by
  obtain ⟨o, ho, hd, hr⟩ := opRun_spec h
  exact WO.ok ⟨o, ho, hd, .inl hr⟩ (k _ _ (S.alloc cs T))

theorem WO.callF {K : List Item} {fuel : Nat} {l : Array Bool} {j : Nat} {env : Env} {w : World} (d : Nat) (g : FuncId) (args : Array Value) (hb : HasBody P g) (h : callAt N (rItem (rOps K) j) env = some (some d, g, args)) {Q : Value → World → Prop}
    (hc : Ret P g args w Q) (k : ∀ v w', Q v w' → WB P f N R K H fuel l ((d, v) :: env) w') : WO P f N R K H fuel l j env w := by
  intro a hf
  obtain ⟨o, ho, hd, hr⟩ := callAt_spec hb h w
  obtain ⟨hi, hw, he, hfit⟩ := opAt_rItem ho hf
  unfold wpOp
  simp only [hi, hw, if_true]
  refine .inl ?_
  unfold Oper.wp
  rw [he, hr]
  refine Calls.mono hc ?_
  rintro _ w' ⟨v, rfl, hq⟩
  have := (k v w' hq).out (by have := hfit v; rw [hd] at this; exact this)
  rw [hd]
  exact this

/-- an operation that yields the same in every world that meets 'H', taken first: no other order need be looked at -/
theorem WA.take {K : List Item} {fuel : Nat} {l : Array Bool} {env : Env} {w : World} (i d : Nat) (v : Value) (l' : Array Bool) (hs : Region.noSelect (rOps K) = true) (hf : Region.free .any (rOps K) l i = true) (hr : (Region.ready .any (rOps K) l).contains i = true)
    (hv : ∀ w, H w → opRun P N (rItem (rOps K) i) env w = some (some d, .ok (.value v) w)) (hl : l.setIfInBounds i true = l') (k : WA P f N R K H fuel l' ((d, v) :: env) w) : WA P f N R K H (fuel + 1) l env w := by
  subst hl
  intro hH a hfit
  obtain ⟨o, ho, hd, _⟩ := opRun_spec (hv w hH)
  obtain ⟨hi, hw, he, hfi⟩ := opAt_rItem ho hfit
  refine wpAnyH_take hi hs hf hr (v := v) (fun c a w h => by cases h.1) (.inl ⟨hw, fun w' hw' => ?_⟩) hH (k hH _ (by have := hfi v; rw [hd] at this; exact this) |> fun h => by rw [hd]; exact h)
  obtain ⟨o2, ho2, _, hr2⟩ := opRun_spec (hv w' hw')
  rw [ho] at ho2
  cases ho2
  rw [he]; exact hr2

theorem WA.takeOK {K : List Item} {fuel : Nat} {l : Array Bool} {env : Env} {w : World} (i : Nat) (l' : Array Bool) (hs : Region.noSelect (rOps K) = true) (hf : Region.free .any (rOps K) l i = true) (hr : (Region.ready .any (rOps K) l).contains i = true) (hl : l.setIfInBounds i true = l') {d : Nat} {v : Value}
    (hv : ∀ w, H w → OK P N (rItem (rOps K) i) env w (some d) v w) (hu : (match v with | .tuple _ => false | _ => true) = true) (k : WA P f N R K H fuel l' ((d, v) :: env) w) : WA P f N R K H (fuel + 1) l env w := by
  refine WA.take i d v l' hs hf hr (fun w hw => ?_) hl k
  obtain ⟨o, ho, hd, hrun⟩ := hv w hw
  unfold opRun
  rw [ho]
  rcases hrun with hrun | ⟨rfl, _⟩
  · simp [hd, hrun]
  · cases hu

theorem WA.takePass {K : List Item} {fuel : Nat} {l : Array Bool} {env : Env} {w : World} (i : Nat) (d : Option Nat) (l' : Array Bool) (hs : Region.noSelect (rOps K) = true) (hf : Region.free .any (rOps K) l i = true) (hr : (Region.ready .any (rOps K) l).contains i = true)
    (hv : passAt N (rOps K) i env = some d) (hl : l.setIfInBounds i true = l') (k : WA P f N R K H fuel l' (put env d undef) w) : WA P f N R K H (fuel + 1) l env w := by
  subst hl
  intro hH a hfit
  obtain ⟨o, hi, rfl, hw, hfi⟩ := passAt_spec hv hfit
  exact wpAnyH_take hi hs hf hr (v := undef) (fun c a w h => by cases h.1) (.inr ⟨hw, rfl⟩) hH (k hH _ hfi)

theorem WA.done {K : List Item} {fuel : Nat} {l : Array Bool} {env : Env} {w : World} (hr : Region.ready .any (rOps K) l = []) (k : J P f N R (rRest K) env w) : WA P f N R K H fuel l env w :=
  fun _ a hf => wpAnyH_done hr ⟨rfl, k a hf⟩ fuel

theorem WA.weaken {K : List Item} {fuel : Nat} {l : Array Bool} {env env' : Env} {w : World} (h : (env'.map fun p => look env p.1) = env'.map fun p => some p.2) (k : WA P f N R K H fuel l env' w) : WA P f N R K H fuel l env w :=
  fun hH a hf => k hH a (hf.sub h)

theorem WA.head {K : List Item} {fuel : Nat} {l : Array Bool} {t : Nat} {v : Value} (v' : Value) {env : Env} {w : World} (hv : v = v') (k : WA P f N R K H fuel l ((t, v') :: env) w) : WA P f N R K H fuel l ((t, v) :: env) w := by
  subst hv; exact k

theorem WB.head {K : List Item} {fuel : Nat} {l : Array Bool} {t : Nat} {v : Value} (v' : Value) {env : Env} {w : World} (hv : v = v') (k : WB P f N R K H fuel l ((t, v') :: env) w) : WB P f N R K H fuel l ((t, v) :: env) w := by
  subst hv; exact k

/-- A REGION THAT DRAWS: every order -/
theorem J.drawAny (H : World → Prop) {w0 : World} {L : List Claim} {K : List Item} {env : Env} {w : World} (S : Sep w0 L w) (n : Nat) (l : Array Bool) (hm : P.follows .mixedOrders = true) (hd : isDraw K = true) (hn : (rOps K).size = n) (hl : Array.replicate n false = l)
    (k : ∀ w', Sep w0 L w' → WB P f N R K H n l env w') : J P f N R K env w := by
  subst hl hn
  intro a hf
  have hk := (k _ S.drew).out hf
  unfold isDraw at hd
  split at hd
  · rename_i id ops k'
    exact Ja.of_wp (wp_region_held (P := P) (id := id) (ops := ops) (Q := Qn P f R k') (a := a) (w := w) hm hk.2)
  · cases hd
end
end Go.Eng
