/- The proof engine, fourth part: regions that draw their order, order by order. Conditions: none; it is generic in the program. -/
import Derived.Test.YtbbpgidmadlgmaaZdEng3
import Derived.OrdersHeld
namespace Go.Eng
set_option linter.unusedSimpArgs false
set_option linter.unusedVariables false
open Go.RowKit

section
variable {P : Program} {f : FuncId} {N : Nat} {R : Value → World → Prop}

/-- the region's rest, whatever is ready being taken next; 'l': what has been done; 'H': what holds of the world behind every operation -/
def WA (P : Program) (f : FuncId) (N : Nat) (R : Value → World → Prop) (K : List Item) (H : World → Prop) (fuel : Nat) (l : Array Bool) (env : Env) (w : World) : Prop :=
  H w → ∀ a, Fits N env a → wpAnyH P .any (rOps K) (Qn P f R (rRest K)) H fuel l a w

/-- the same, with 'H' to be shown first -/
def WB (P : Program) (f : FuncId) (N : Nat) (R : Value → World → Prop) (K : List Item) (H : World → Prop) (fuel : Nat) (l : Array Bool) (env : Env) (w : World) : Prop :=
  H w ∧ WA P f N R K H fuel l env w

/-- operation i comes next -/
def WO (P : Program) (f : FuncId) (N : Nat) (R : Value → World → Prop) (K : List Item) (H : World → Prop) (fuel : Nat) (l : Array Bool) (i : Nat) (env : Env) (w : World) : Prop :=
  ∀ a, Fits N env a → wpOp P (rOps K) (Qn P f R (rRest K)) i (fun a' w' => H w' ∧ wpAnyH P .any (rOps K) (Qn P f R (rRest K)) H fuel l a' w') a w

def AllW (P : Program) (f : FuncId) (N : Nat) (R : Value → World → Prop) (K : List Item) (H : World → Prop) (fuel : Nat) (l : Array Bool) (env : Env) (w : World) : List Nat → Prop
  | [] => True
  | i :: r => WO P f N R K H fuel (l.setIfInBounds i true) i env w ∧ AllW P f N R K H fuel l env w r

variable {H : World → Prop}

theorem WB.mk {K : List Item} {fuel : Nat} {l : Array Bool} {env : Env} {w : World} (h : H w) (k : WA P f N R K H fuel l env w) : WB P f N R K H fuel l env w := ⟨h, k⟩

theorem WB.out {K : List Item} {fuel : Nat} {l : Array Bool} {env : Env} {w : World} {a : Act} (k : WB P f N R K H fuel l env w) (hf : Fits N env a) : H w ∧ wpAnyH P .any (rOps K) (Qn P f R (rRest K)) H fuel l a w := ⟨k.1, k.2 k.1 a hf⟩

theorem WA.all {K : List Item} {fuel : Nat} {l : Array Bool} {env : Env} {w : World} (rs : List Nat) (hr : Region.ready .any (rOps K) l = rs) (hne : rs.isEmpty = false) (h : AllW P f N R K H fuel l env w rs) : WA P f N R K H (fuel + 1) l env w := by
  intro _ a hf
  refine wpAnyH_all hr (by cases rs <;> simp_all) fun i hi => ?_
  clear hr hne
  induction rs with
  | nil => cases hi
  | cons j r ih =>
    rcases List.mem_cons.1 hi with rfl | hi
    · exact h.1 a hf
    · exact ih h.2 hi

theorem WO.set {K : List Item} {fuel : Nat} {l : Array Bool} {i : Nat} {env : Env} {w : World} (l' : Array Bool) (hl : l = l') (k : WO P f N R K H fuel l' i env w) : WO P f N R K H fuel l i env w := by
  subst hl; exact k

theorem WO.ok {K : List Item} {fuel : Nat} {l : Array Bool} {i : Nat} {env : Env} {w w' : World} {d : Option Nat} {v : Value} (h : OK P N (rItem (rOps K) i) env w d v w') (k : WB P f N R K H fuel l (put env d v) w') : WO P f N R K H fuel l i env w := by
  intro a hf
  obtain ⟨o, ho, rfl, hr⟩ := h
  obtain ⟨hi, hw, he, hfit⟩ := opAt_rItem ho hf
  unfold wpOp
  simp only [hi, hw, if_true]
  refine .inl ?_
  unfold Oper.wp
  rw [he]
  rcases hr with hr | ⟨rfl, hr⟩
  · rw [hr]; exact k.out (hfit v)
  · rw [hr]; exact k.out (hfit undef)

theorem WO.stBox {w0 w : World} {L : List Claim} (S : Sep w0 L w) (i : Nat) {b : Nat} {cs : List Value} {T : TypeId} {K : List Item} {fuel : Nat} {l : Array Bool} {j : Nat} {env : Env} (t : TypeId) (off : Nat) (v : Value) (cs' : List Value) (L' : List Claim)
    (h : stAt N (rItem (rOps K) j) env = some (none, t, ⟨b, off, none⟩, v)) (hi : L[i]? = some (box b cs T)) (hs : (P.info? t).map (·.size) = some v.cells.size) (hv : stV off v.cells.toList cs = some cs')
    (hL : L.set i (box b cs' T) = L')
    (k : ∀ w', Sep w0 L' w' → WB P f N R K H fuel l env w') : WO P f N R K H fuel l j env w := by
  subst hL
  exact WO.ok (OK.store _ h (run_storeVar (S.nth i hi) hs hv)) (k _ (S.setBox i cs' hi))

theorem WO.new {w0 w : World} {L : List Claim} (S : Sep w0 L w) (d : Nat) (cs : List Value) (T : TypeId) {K : List Item} {fuel : Nat} {l : Array Bool} {j : Nat} {env : Env}
    (h : opRun P N (rItem (rOps K) j) env w = some (some d, .ok (.value (.pointer (some ⟨w.heap.size, 0, none⟩))) (w.alloc (.cells cs.toArray T))))
    (k : ∀ b w', Sep w0 (box b cs T :: L) w' → WB P f N R K H fuel l ((d, .pointer (some ⟨b, 0, none⟩)) :: env) w') : WO P f N R K H fuel l j env w := by
  obtain ⟨o, ho, hd, hr⟩ := opRun_spec h
  exact WO.ok ⟨o, ho, hd, .inl hr⟩ (k _ _ (S.alloc cs T))

theorem WO.callF {K : List Item} {fuel : Nat} {l : Array Bool} {j : Nat} {env : Env} {w : World} (d : Nat) (g : FuncId) (args : Array Value) (hb : HasBody P g) (h : callAt N (rItem (rOps K) j) env = some (some d, g, args)) {Q : Value → World → Prop}
    (hc : Ret P g args w Q) (k : ∀ v w', Q v w' → WB P f N R K H fuel l ((d, v) :: env) w') : WO P f N R K H fuel l j env w := by
  intro a hf
  obtain ⟨o, ho, hd, hr⟩ := callAt_spec hb h w
  obtain ⟨hi, hw, he, hfit⟩ := opAt_rItem ho hf
  unfold wpOp
  simp only [hi, hw, if_true]
  refine .inl ?_
  unfold Oper.wp
  rw [he, hr]
  refine Calls.mono hc ?_
  rintro _ w' ⟨v, rfl, hq⟩
  have := (k v w' hq).out (by have := hfit v; rw [hd] at this; exact this)
  rw [hd]
  exact this

/-- an operation that yields the same in every world that meets 'H', taken first: no other order need be looked at -/
theorem WA.take {K : List Item} {fuel : Nat} {l : Array Bool} {env : Env} {w : World} (i d : Nat) (v : Value) (l' : Array Bool) (hs : Region.noSelect (rOps K) = true) (hf : Region.free .any (rOps K) l i = true) (hr : (Region.ready .any (rOps K) l).contains i = true)
    (hv : ∀ w, H w → opRun P N (rItem (rOps K) i) env w = some (some d, .ok (.value v) w)) (hl : l.setIfInBounds i true = l') (k : WA P f N R K H fuel l' ((d, v) :: env) w) : WA P f N R K H (fuel + 1) l env w := by
  subst hl
  intro hH a hfit
  obtain ⟨o, ho, hd, _⟩ := opRun_spec (hv w hH)
  obtain ⟨hi, hw, he, hfi⟩ := opAt_rItem ho hfit
  refine wpAnyH_take hi hs hf hr (v := v) (fun c a w h => by cases h.1) (.inl ⟨hw, fun w' hw' => ?_⟩) hH (k hH _ (by have := hfi v; rw [hd] at this; exact this) |> fun h => by rw [hd]; exact h)
  obtain ⟨o2, ho2, _, hr2⟩ := opRun_spec (hv w' hw')
  rw [ho] at ho2
  cases ho2
  rw [he]; exact hr2

theorem WA.takeOK {K : List Item} {fuel : Nat} {l : Array Bool} {env : Env} {w : World} (i : Nat) (l' : Array Bool) (hs : Region.noSelect (rOps K) = true) (hf : Region.free .any (rOps K) l i = true) (hr : (Region.ready .any (rOps K) l).contains i = true) (hl : l.setIfInBounds i true = l') {d : Nat} {v : Value}
    (hv : ∀ w, H w → OK P N (rItem (rOps K) i) env w (some d) v w) (hu : (match v with | .tuple _ => false | _ => true) = true) (k : WA P f N R K H fuel l' ((d, v) :: env) w) : WA P f N R K H (fuel + 1) l env w := by
  refine WA.take i d v l' hs hf hr (fun w hw => ?_) hl k
  obtain ⟨o, ho, hd, hrun⟩ := hv w hw
  unfold opRun
  rw [ho]
  rcases hrun with hrun | ⟨rfl, _⟩
  · simp [hd, hrun]
  · cases hu

theorem WA.done {K : List Item} {fuel : Nat} {l : Array Bool} {env : Env} {w : World} (hr : Region.ready .any (rOps K) l = []) (k : J P f N R (rRest K) env w) : WA P f N R K H fuel l env w :=
  fun _ a hf => wpAnyH_done hr ⟨rfl, k a hf⟩ fuel

theorem WA.weaken {K : List Item} {fuel : Nat} {l : Array Bool} {env env' : Env} {w : World} (h : (env'.map fun p => look env p.1) = env'.map fun p => some p.2) (k : WA P f N R K H fuel l env' w) : WA P f N R K H fuel l env w :=
  fun hH a hf => k hH a (hf.sub h)

theorem WA.head {K : List Item} {fuel : Nat} {l : Array Bool} {t : Nat} {v : Value} (v' : Value) {env : Env} {w : World} (hv : v = v') (k : WA P f N R K H fuel l ((t, v') :: env) w) : WA P f N R K H fuel l ((t, v) :: env) w := by
  subst hv; exact k

theorem WB.head {K : List Item} {fuel : Nat} {l : Array Bool} {t : Nat} {v : Value} (v' : Value) {env : Env} {w : World} (hv : v = v') (k : WB P f N R K H fuel l ((t, v') :: env) w) : WB P f N R K H fuel l ((t, v) :: env) w := by
  subst hv; exact k

/-- A REGION THAT DRAWS: every order -/
theorem J.drawAny (H : World → Prop) {w0 : World} {L : List Claim} {K : List Item} {env : Env} {w : World} (S : Sep w0 L w) (n : Nat) (l : Array Bool) (hm : P.follows .mixedOrders = true) (hd : isDraw K = true) (hn : (rOps K).size = n) (hl : Array.replicate n false = l)
    (k : ∀ w', Sep w0 L w' → WB P f N R K H n l env w') : J P f N R K env w := by
  subst hl hn
  intro a hf
  have hk := (k _ S.drew).out hf
  unfold isDraw at hd
  split at hd
  · rename_i id ops k'
    exact Ja.of_wp (wp_region_held (P := P) (id := id) (ops := ops) (Q := Qn P f R k') (a := a) (w := w) hm hk.2)
  · cases hd

/-- a plan: which operation comes next, and whether it may be taken first (true) or is the only one that may come (false); the check is one Bool -/
def planB (ops : Array Oper) : List (Nat × Bool) → Array Bool → Bool
  | [], l => (Region.ready .any ops l).isEmpty
  | (i, true) :: r, l => (Region.ready .any ops l).contains i && Region.free .any ops l i && planB ops r (l.setIfInBounds i true)
  | (i, false) :: r, l => decide (Region.ready .any ops l = [i]) && planB ops r (l.setIfInBounds i true)

def planOK (ops : Array Oper) (plan : List (Nat × Bool)) : Bool := Region.noSelect ops && decide (plan.length = ops.size) && planB ops plan (Array.replicate ops.size false)

/-- the region's rest by a plan -/
def PL (P : Program) (f : FuncId) (N : Nat) (R : Value → World → Prop) (K : List Item) (H : World → Prop) (plan : List (Nat × Bool)) (env : Env) (w : World) : Prop :=
  ∀ l, Region.noSelect (rOps K) = true → planB (rOps K) plan l = true → H w → ∀ a, Fits N env a → wpAnyH P .any (rOps K) (Qn P f R (rRest K)) H plan.length l a w

/-- the same, with 'H' to be shown first -/
def PB (P : Program) (f : FuncId) (N : Nat) (R : Value → World → Prop) (K : List Item) (H : World → Prop) (plan : List (Nat × Bool)) (env : Env) (w : World) : Prop :=
  H w ∧ PL P f N R K H plan env w

theorem PB.mk {K : List Item} {plan : List (Nat × Bool)} {env : Env} {w : World} (h : H w) (k : PL P f N R K H plan env w) : PB P f N R K H plan env w := ⟨h, k⟩

theorem PL.take {K : List Item} {plan : List (Nat × Bool)} {env : Env} {w : World} (i d : Nat) (v : Value)
    (hv : ∀ w, H w → opRun P N (rItem (rOps K) i) env w = some (some d, .ok (.value v) w)) (k : PL P f N R K H plan ((d, v) :: env) w) : PL P f N R K H ((i, true) :: plan) env w := by
  intro l hs hp hH a hfit
  simp only [planB, Bool.and_eq_true] at hp
  obtain ⟨o, ho, hd, _⟩ := opRun_spec (hv w hH)
  obtain ⟨hi, hw, he, hfi⟩ := opAt_rItem ho hfit
  refine wpAnyH_take hi hs hp.1.2 hp.1.1 (v := v) (fun c a w h => by cases h.1) (.inl ⟨hw, fun w' hw' => ?_⟩) hH (k _ hs hp.2 hH _ (by have := hfi v; rw [hd] at this; exact this) |> fun h => by rw [hd]; exact h)
  obtain ⟨o2, ho2, _, hr2⟩ := opRun_spec (hv w' hw')
  rw [ho] at ho2
  cases ho2
  rw [he]; exact hr2

theorem PL.takeOK {K : List Item} {plan : List (Nat × Bool)} {env : Env} {w : World} (i : Nat) {d : Nat} {v : Value}
    (hv : ∀ w, H w → OK P N (rItem (rOps K) i) env w (some d) v w) (hu : (match v with | .tuple _ => false | _ => true) = true) (k : PL P f N R K H plan ((d, v) :: env) w) : PL P f N R K H ((i, true) :: plan) env w := by
  refine PL.take i d v (fun w hw => ?_) k
  obtain ⟨o, ho, hd, hrun⟩ := hv w hw
  unfold opRun
  rw [ho]
  rcases hrun with hrun | ⟨rfl, _⟩
  · simp [hd, hrun]
  · cases hu

theorem PL.only {K : List Item} {plan : List (Nat × Bool)} {env : Env} {w : World} (i : Nat) (k : ∀ a, Fits N env a → ∀ l, Region.noSelect (rOps K) = true → planB (rOps K) plan l = true →
    wpOp P (rOps K) (Qn P f R (rRest K)) i (fun a' w' => H w' ∧ wpAnyH P .any (rOps K) (Qn P f R (rRest K)) H plan.length l a' w') a w) : PL P f N R K H ((i, false) :: plan) env w := by
  intro l hs hp hH a hfit
  simp only [planB, Bool.and_eq_true, decide_eq_true_eq] at hp
  refine wpAnyH_all hp.1 (by simp) fun j hj => ?_
  simp only [List.mem_singleton] at hj
  subst hj
  exact k a hfit _ hs hp.2

theorem PL.ok {K : List Item} {plan : List (Nat × Bool)} {i : Nat} {env : Env} {w w' : World} {d : Option Nat} {v : Value} (h : OK P N (rItem (rOps K) i) env w d v w') (k : PB P f N R K H plan (put env d v) w') : PL P f N R K H ((i, false) :: plan) env w := by
  refine PL.only i fun a hf l hs hp => ?_
  obtain ⟨o, ho, rfl, hr⟩ := h
  obtain ⟨hi, hw, he, hfit⟩ := opAt_rItem ho hf
  unfold wpOp
  simp only [hi, hw, if_true]
  refine .inl ?_
  unfold Oper.wp
  rw [he]
  rcases hr with hr | ⟨rfl, hr⟩
  · rw [hr]; exact ⟨k.1, k.2 l hs hp k.1 _ (hfit v)⟩
  · rw [hr]; exact ⟨k.1, k.2 l hs hp k.1 _ (hfit undef)⟩

theorem PL.stBox {w0 w : World} {L : List Claim} (S : Sep w0 L w) (i : Nat) {b : Nat} {cs : List Value} {T : TypeId} {K : List Item} {plan : List (Nat × Bool)} {j : Nat} {env : Env} (t : TypeId) (off : Nat) (v : Value) (cs' : List Value) (L' : List Claim)
    (h : stAt N (rItem (rOps K) j) env = some (none, t, ⟨b, off, none⟩, v)) (hi : L[i]? = some (box b cs T)) (hs : (P.info? t).map (·.size) = some v.cells.size) (hv : stV off v.cells.toList cs = some cs')
    (hL : L.set i (box b cs' T) = L')
    (k : ∀ w', Sep w0 L' w' → PB P f N R K H plan env w') : PL P f N R K H ((j, false) :: plan) env w := by
  subst hL
  exact PL.ok (OK.store _ h (run_storeVar (S.nth i hi) hs hv)) (k _ (S.setBox i cs' hi))

theorem PL.new {w0 w : World} {L : List Claim} (S : Sep w0 L w) (d : Nat) (cs : List Value) (T : TypeId) {K : List Item} {plan : List (Nat × Bool)} {j : Nat} {env : Env}
    (h : opRun P N (rItem (rOps K) j) env w = some (some d, .ok (.value (.pointer (some ⟨w.heap.size, 0, none⟩))) (w.alloc (.cells cs.toArray T))))
    (k : ∀ b w', Sep w0 (box b cs T :: L) w' → PB P f N R K H plan ((d, .pointer (some ⟨b, 0, none⟩)) :: env) w') : PL P f N R K H ((j, false) :: plan) env w := by
  obtain ⟨o, ho, hd, hr⟩ := opRun_spec h
  exact PL.ok ⟨o, ho, hd, .inl hr⟩ (k _ _ (S.alloc cs T))

theorem PL.callF {K : List Item} {plan : List (Nat × Bool)} {j : Nat} {env : Env} {w : World} (d : Nat) (g : FuncId) (args : Array Value) (hb : HasBody P g) (h : callAt N (rItem (rOps K) j) env = some (some d, g, args)) {Q : Value → World → Prop}
    (hc : Ret P g args w Q) (k : ∀ v w', Q v w' → PB P f N R K H plan ((d, v) :: env) w') : PL P f N R K H ((j, false) :: plan) env w := by
  refine PL.only j fun a hf l hs hp => ?_
  obtain ⟨o, ho, hd, hr⟩ := callAt_spec hb h w
  obtain ⟨hi, hw, he, hfit⟩ := opAt_rItem ho hf
  unfold wpOp
  simp only [hi, hw, if_true]
  refine .inl ?_
  unfold Oper.wp
  rw [he, hr]
  refine Calls.mono hc ?_
  rintro _ w' ⟨v, rfl, hq⟩
  have hk := k v w' hq
  have := hk.2 l hs hp hk.1 _ (by have := hfit v; rw [hd] at this; exact this)
  rw [hd]
  exact ⟨hk.1, this⟩

theorem PL.done {K : List Item} {env : Env} {w : World} (k : J P f N R (rRest K) env w) : PL P f N R K H [] env w := by
  intro l hs hp hH a hf
  exact wpAnyH_done (by simpa [planB] using hp) ⟨rfl, k a hf⟩ 0

theorem PL.head {K : List Item} {plan : List (Nat × Bool)} {t : Nat} {v : Value} (v' : Value) {env : Env} {w : World} (hv : v = v') (k : PL P f N R K H plan ((t, v') :: env) w) : PL P f N R K H plan ((t, v) :: env) w := by
  subst hv; exact k

theorem PB.head {K : List Item} {plan : List (Nat × Bool)} {t : Nat} {v : Value} (v' : Value) {env : Env} {w : World} (hv : v = v') (k : PB P f N R K H plan ((t, v') :: env) w) : PB P f N R K H plan ((t, v) :: env) w := by
  subst hv; exact k

/-- A REGION THAT DRAWS: by a plan -/
theorem J.drawPlan (H : World → Prop) (plan : List (Nat × Bool)) {w0 : World} {L : List Claim} {K : List Item} {env : Env} {w : World} (S : Sep w0 L w) (hm : P.follows .mixedOrders = true) (hd : isDraw K = true) (hp : planOK (rOps K) plan = true)
    (k : ∀ w', Sep w0 L w' → PB P f N R K H plan env w') : J P f N R K env w := by
  intro a hf
  simp only [planOK, Bool.and_eq_true, decide_eq_true_eq] at hp
  obtain ⟨⟨hs, hlen⟩, hB⟩ := hp
  have hk := k _ S.drew
  have h2 := hk.2 _ hs hB hk.1 a hf
  rw [hlen] at h2
  unfold isDraw at hd
  split at hd
  · rename_i id ops k'
    exact Ja.of_wp (wp_region_held (P := P) (id := id) (ops := ops) (Q := Qn P f R k') (a := a) (w := w) hm h2)
  · cases hd
end

/-! A quick check of a plan -/
/-- sets of numbers as one number -/
def maskE : List Edge → Nat
  | [] => 0
  | e :: r => bif Region.binds .any e then Nat.lor (maskE r) (2 ^ e.on) else maskE r
def maskN : List Nat → Nat
  | [] => 0
  | t :: r => Nat.lor (maskN r) (2 ^ t)
/-- what the check asks of an operation: after which it comes; where it writes; where it looks -/
def sumOf (ops : Array Oper) (o : Oper) : Nat × Option Nat × Nat := (maskE o.after.toList, o.dst, maskN (o.looksAt ops))
def apartT (x y : Nat × Option Nat × Nat) : Bool :=
  (match x.2.1 with | some d => !(Nat.testBit y.2.2 d) && (match y.2.1 with | some e => !(Nat.beq d e) | none => true) | none => true) &&
  (match y.2.1 with | some d => !(Nat.testBit x.2.2 d) | none => true)
def freeT (x : Nat × Option Nat × Nat) (i D : Nat) : Nat → List (Nat × Option Nat × Nat) → Bool
  | _, [] => true
  | j, y :: r => (Nat.beq j i || Nat.testBit D j || Nat.testBit y.1 i || apartT x y) && freeT x i D (j + 1) r
def onlyT (i D : Nat) : Nat → List (Nat × Option Nat × Nat) → Bool
  | _, [] => true
  | j, y :: r => (Nat.beq j i || Nat.testBit D j || !(Nat.beq (Nat.land y.1 D) y.1)) && onlyT i D (j + 1) r
def planT (T : List (Nat × Option Nat × Nat)) : List (Nat × Bool) → Nat → Bool
  | [], D => onlyT T.length D 0 T
  | (i, k) :: r, D => (match T[i]? with
    | some x => !(Nat.testBit D i) && Nat.beq (Nat.land x.1 D) x.1 && (bif k then freeT x i D 0 T else onlyT i D 0 T)
    | none => false) && planT T r (Nat.lor D (2 ^ i))

theorem maskN_spec (l : List Nat) (d : Nat) : (maskN l).testBit d = l.contains d := by
  induction l with
  | nil => simp [maskN]
  | cons t r ih =>
    show (maskN r ||| 2 ^ t).testBit d = _
    rw [Nat.testBit_or, ih, Nat.testBit_two_pow, List.contains_cons, Bool.or_comm]
    congr 1
    rw [Bool.eq_iff_iff, decide_eq_true_eq, beq_iff_eq]; exact eq_comm
theorem maskE_spec (l : List Edge) (i : Nat) : (maskE l).testBit i = l.any fun e => Region.binds .any e && e.on == i := by
  induction l with
  | nil => simp [maskE]
  | cons e r ih =>
    unfold maskE
    rw [List.any_cons]
    cases hb : Region.binds .any e with
    | false => simp [ih]
    | true =>
      show (maskE r ||| 2 ^ e.on).testBit i = _
      rw [Nat.testBit_or, ih, Nat.testBit_two_pow, Bool.or_comm]
      congr 1
theorem apartT_spec {ops : Array Oper} {x y : Oper} (h : apartT (sumOf ops x) (sumOf ops y) = true) : x.apart ops y = true := by
  unfold apartT sumOf at h
  simp only [maskN_spec] at h
  unfold Oper.apart
  have nb : ∀ a b : Nat, Nat.beq a b = false → b ≠ a := fun a b h e => by subst e; rw [Nat.beq_refl] at h; cases h
  cases hx : x.dst <;> cases hy : y.dst <;> simp_all
theorem land_sub {m D : Nat} (h : Nat.beq (Nat.land m D) m = true) (k : Nat) (hk : m.testBit k = true) : D.testBit k = true := by
  have h2 : m &&& D = m := Nat.eq_of_beq_eq_true h
  have h3 : (m &&& D).testBit k = true := by rw [h2]; exact hk
  rw [Nat.testBit_and, Bool.and_eq_true] at h3
  exact h3.2
theorem land_not {m D : Nat} (h : Nat.beq (Nat.land m D) m = false) : ∃ k, m.testBit k = true ∧ D.testBit k = false := by
  apply Classical.byContradiction
  intro hc
  have h2 : m &&& D = m := by
    apply Nat.eq_of_testBit_eq
    intro k
    rw [Nat.testBit_and]
    cases hm : m.testBit k with
    | false => rfl
    | true =>
      cases hD : D.testBit k with
      | true => rfl
      | false => exact absurd ⟨k, hm, hD⟩ hc
  have h3 : Nat.beq (m &&& D) m = true := by rw [h2]; exact Nat.beq_refl m
  have h4 : Nat.beq (Nat.land m D) m = true := h3
  rw [h] at h4; cases h4

/-- 'D' says what 'l' says -/
def Rep (D : Nat) (l : Array Bool) : Prop := ∀ j, l.getD j false = D.testBit j

theorem Rep.at {D : Nat} {l : Array Bool} (h : Rep D l) {j : Nat} (hj : j < l.size) : l.getD j true = D.testBit j := by
  have := h j
  simp [hj] at this ⊢
  exact this

theorem Rep.set {D : Nat} {l : Array Bool} (h : Rep D l) {i : Nat} (hi : i < l.size) : Rep (Nat.lor D (2 ^ i)) (l.setIfInBounds i true) := by
  intro j
  show _ = (D ||| 2 ^ i).testBit j
  rw [Nat.testBit_or, Nat.testBit_two_pow]
  by_cases e : i = j
  · subst e; simp [hi]
  · rw [getD_set_ne false e, h j]; simp [e]

section
variable {ops : Array Oper} {l : Array Bool} {D : Nat}

theorem ready_iff (hr : Rep D l) (hl : l.size = ops.size) {j : Nat} {o : Oper} (ho : ops[j]? = some o) :
    j ∈ Region.ready .any ops l ↔ D.testBit j = false ∧ Nat.beq (Nat.land (maskE o.after.toList) D) (maskE o.after.toList) = true := by
  have hj : j < l.size := by rw [hl]; exact (Array.getElem?_eq_some_iff.1 ho).1
  rw [mem_ready, hr.at hj]
  constructor
  · rintro ⟨h1, o', ho', h2⟩
    rw [ho] at ho'; cases ho'
    refine ⟨h1, ?_⟩
    cases hb : Nat.beq (Nat.land (maskE o.after.toList) D) (maskE o.after.toList) with
    | true => rfl
    | false =>
      obtain ⟨k, hk1, hk2⟩ := land_not hb
      rw [maskE_spec, List.any_eq_true] at hk1
      obtain ⟨e, he, hbe⟩ := hk1
      simp only [Bool.and_eq_true, beq_iff_eq] at hbe
      have h3 := h2 e (by simpa using he) hbe.1
      rw [hbe.2, hr k, hk2] at h3
      cases h3
  · rintro ⟨h1, h2⟩
    refine ⟨h1, o, ho, fun e he hb => ?_⟩
    have h3 : (maskE o.after.toList).testBit e.on = true := by
      rw [maskE_spec, List.any_eq_true]
      exact ⟨e, by simpa using he, by simp [hb]⟩
    rw [hr e.on]
    exact land_sub h2 _ h3

theorem onlyT_spec {i : Nat} : ∀ (r : List Oper) (j : Nat), onlyT i D j (r.map (sumOf ops)) = true → ∀ k o, r[k]? = some o → j + k = i ∨ D.testBit (j + k) = true ∨ Nat.beq (Nat.land (maskE o.after.toList) D) (maskE o.after.toList) = false := by
  intro r
  induction r with
  | nil => intro j _ k o h; simp at h
  | cons x r ih =>
    intro j h k o hk
    simp only [List.map_cons, onlyT, Bool.and_eq_true, Bool.or_eq_true, sumOf] at h
    cases k with
    | zero =>
      simp at hk; subst hk
      rcases h.1 with (h1 | h1) | h1
      · exact .inl (Nat.eq_of_beq_eq_true h1)
      · exact .inr (.inl h1)
      · exact .inr (.inr (by simpa using h1))
    | succ k =>
      have := ih (j + 1) h.2 k o (by simpa using hk)
      rwa [show j + 1 + k = j + (k + 1) by omega] at this

theorem freeT_spec {i : Nat} {x : Oper} : ∀ (r : List Oper) (j : Nat), freeT (sumOf ops x) i D j (r.map (sumOf ops)) = true → ∀ k o, r[k]? = some o → j + k = i ∨ D.testBit (j + k) = true ∨ (maskE o.after.toList).testBit i = true ∨ x.apart ops o = true := by
  intro r
  induction r with
  | nil => intro j _ k o h; simp at h
  | cons y r ih =>
    intro j h k o hk
    simp only [List.map_cons, freeT, Bool.and_eq_true, Bool.or_eq_true] at h
    cases k with
    | zero =>
      simp at hk; subst hk
      rcases h.1 with ((h1 | h1) | h1) | h1
      · exact .inl (Nat.eq_of_beq_eq_true h1)
      · exact .inr (.inl h1)
      · exact .inr (.inr (.inl h1))
      · exact .inr (.inr (.inr (apartT_spec h1)))
    | succ k =>
      have := ih (j + 1) h.2 k o (by simpa using hk)
      rwa [show j + 1 + k = j + (k + 1) by omega] at this

theorem filter_one {n i : Nat} {p : Nat → Bool} (hi : i < n) (h1 : p i = true) (h2 : ∀ j, j < n → j ≠ i → p j = false) : (List.range n).filter p = [i] := by
  induction n with
  | zero => omega
  | succ n ih =>
    rw [List.range_succ, List.filter_append]
    by_cases e : i = n
    · subst e
      have h3 : (List.range i).filter p = [] := by
        rw [List.filter_eq_nil_iff]
        intro j hj
        simp only [List.mem_range] at hj
        rw [h2 j (by omega) (by omega)]; simp
      rw [h3]; simp [h1]
    · rw [ih (by omega) fun j hj hne => h2 j (by omega) hne]
      simp [h2 n (by omega) (fun h => e h.symm)]

theorem ready_mem_range {j : Nat} (h : j ∈ Region.ready .any ops l) : j < ops.size := by
  unfold Region.ready at h
  rw [List.mem_filter, List.mem_range] at h
  exact h.1

theorem planT_spec : ∀ (plan : List (Nat × Bool)) (l : Array Bool) (D : Nat), Rep D l → l.size = ops.size → planT (ops.toList.map (sumOf ops)) plan D = true → planB ops plan l = true := by
  intro plan
  induction plan with
  | nil =>
    intro l D hr hl h
    simp only [planT] at h
    show (Region.ready .any ops l).isEmpty = true
    rw [List.isEmpty_iff]
    apply List.eq_nil_iff_forall_not_mem.2
    intro j hj
    have hlt := ready_mem_range hj
    have ho : ops[j]? = some ops[j] := by simp [hlt]
    obtain ⟨h1, h2⟩ := (ready_iff hr hl ho).1 hj
    have := onlyT_spec ops.toList 0 h j ops[j] (by simp [hlt])
    simp only [Nat.zero_add, List.length_map, Array.length_toList] at this
    rcases this with h3 | h3 | h3
    · omega
    · rw [h1] at h3; cases h3
    · rw [h2] at h3; cases h3
  | cons p plan ih =>
    obtain ⟨i, k⟩ := p
    intro l D hr hl h
    simp only [planT, Bool.and_eq_true] at h
    obtain ⟨h1, h2⟩ := h
    cases hx : (ops.toList.map (sumOf ops))[i]? with
    | none => rw [hx] at h1; cases h1
    | some x =>
      rw [hx] at h1
      rw [List.getElem?_map, Option.map_eq_some_iff] at hx
      obtain ⟨o, ho', rfl⟩ := hx
      have ho : ops[i]? = some o := by simpa using ho'
      have hlt : i < ops.size := (Array.getElem?_eq_some_iff.1 ho).1
      simp only [Bool.and_eq_true, Bool.not_eq_true'] at h1
      obtain ⟨⟨h3, h4⟩, h5⟩ := h1
      have hready : i ∈ Region.ready .any ops l := (ready_iff hr hl ho).2 ⟨h3, h4⟩
      have hrest := ih (l.setIfInBounds i true) (Nat.lor D (2 ^ i)) (hr.set (by omega)) (by simpa using hl) h2
      cases k with
      | true =>
        show (_ && _ && _) = true
        rw [Bool.and_eq_true, Bool.and_eq_true]
        refine ⟨⟨by simpa using hready, ?_⟩, hrest⟩
        unfold Region.free
        rw [ho]
        simp only [List.all_eq_true, List.mem_range, Bool.or_eq_true, beq_iff_eq]
        intro j hj
        have hoj : ops[j]? = some ops[j] := by simp [hj]
        rcases freeT_spec ops.toList 0 h5 j ops[j] (by simp [hj]) with h6 | h6 | h6 | h6 <;> (try simp only [Nat.zero_add] at h6)
        · exact .inl (.inl h6)
        · exact .inl (.inr (by rw [hr.at (by omega)]; exact h6))
        · right; rw [hoj]
          rw [maskE_spec, List.any_eq_true] at h6
          obtain ⟨e, he, hb⟩ := h6
          simp only [Bool.or_eq_true]
          exact .inl (Array.any_eq_true'.2 ⟨e, by simpa using he, hb⟩)
        · right; rw [hoj]; simp only [Bool.or_eq_true]; exact .inr h6
      | false =>
        show (_ && _) = true
        rw [Bool.and_eq_true]
        refine ⟨?_, hrest⟩
        rw [decide_eq_true_eq]
        unfold Region.ready at hready ⊢
        rw [List.mem_filter] at hready
        refine filter_one hlt hready.2 fun j hj hne => ?_
        cases hp : (!l.getD j true && ((ops[j]?).map (·.after.all fun e => !Region.binds .any e || l.getD e.on false)).getD false) with
        | false => rfl
        | true =>
          exfalso
          have hoj : ops[j]? = some ops[j] := by simp [hj]
          have hjr : j ∈ Region.ready .any ops l := by
            unfold Region.ready
            rw [List.mem_filter, List.mem_range]
            exact ⟨hj, hp⟩
          obtain ⟨h6, h7⟩ := (ready_iff hr hl hoj).1 hjr
          rcases onlyT_spec ops.toList 0 h5 j ops[j] (by simp [hj]) with h8 | h8 | h8 <;> (try simp only [Nat.zero_add] at h8)
          · exact hne h8
          · rw [h6] at h8; cases h8
          · rw [h7] at h8; cases h8

theorem planOK_of {T : List (Nat × Option Nat × Nat)} {plan : List (Nat × Bool)} (hT : ops.toList.map (sumOf ops) = T) (h : (Region.noSelect ops && Nat.beq plan.length ops.size && planT T plan 0) = true) : planOK ops plan = true := by
  subst hT
  simp only [Bool.and_eq_true] at h
  unfold planOK
  rw [h.1.1, decide_eq_true (Nat.eq_of_beq_eq_true h.1.2), planT_spec plan _ 0 (fun j => by rw [getD_replicate_false]; simp) (by simp) h.2]
  rfl
end
end Go.Eng

