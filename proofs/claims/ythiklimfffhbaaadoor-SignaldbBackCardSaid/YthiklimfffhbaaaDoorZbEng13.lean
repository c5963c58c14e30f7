/- The proof engine, thirteenth part: a text appended to a slice of bytes of the call's own; strings.Builder. Conditions: none; it is generic in the program. -/
import Derived.Test.YthiklimfffhbaaaDoorZbEng12
import Derived.Lib.AppendStr
import Derived.Lib.Builder
import Derived.Lib.FrozenHead
import Derived.Lib.OthersKept
namespace Go.Eng
set_option linter.unusedSimpArgs false
set_option linter.unusedVariables false
open Go.RowKit

/-- a byte as the cells of its element -/
def enc8 (c : UInt8) : List Value := [.int .u8 c.toNat]
theorem enc8_str (s : ByteArray) : (ls s).flatMap enc8 = Lib.strCells s := by
  unfold Lib.strCells ls
  generalize s.data.toList = l
  induction l with
  | nil => rfl
  | cons c l ih => rw [List.flatMap_cons, ih]; rfl

section
variable {P : Program} {f : FuncId} {N : Nat} {R : Value → World → Prop}

theorem run_append_str (w : World) (t u ty e : TypeId) (i : TypeInfo) (ht : P.underlying t = some (.slice e)) (hu : P.underlying u = some .string) (hi : P.info? e = some i) (hz : i.zero = some (.int .u8 0))
    (hsize : i.size = 1) (hby : i.bytes = 1) (v : Value) (n : Nat) (xs : List Value) (hown : w.ownsRow 0 e 1 v n xs) (s : ByteArray) (h63 : n + s.size ≤ maxLen) (hbytes : n + s.size ≤ 140737488355328) :
    ∃ v' w', (Builtin.append_ #[t, u] ty #[v, .string s]).run P w = .ok v' w' ∧ w'.ownsRow 0 e 1 v' (n + s.size) (xs ++ Lib.strCells s) ∧ w.grownBy w' v.ownBlock ∧
      (∀ b, v'.ownBlock = some b → v.ownBlock = some b ∨ w.heap.size ≤ b) := by
  obtain ⟨v', w', hr, ho, hg, _⟩ := Lib.run_append_own_string (P := P) w 0 t u ty e i ht hu hi hz hsize hby v n xs hown s h63 hbytes (Nat.zero_le _)
  refine ⟨v', w', hr, ho, hg, fun b hb => ?_⟩
  rcases hown.2 with ⟨rfl, rfl⟩ | ⟨g, cap, cur, rfl, _, hgc, hnc, hcm, hcs, htake⟩
  · obtain ⟨v2, w2, hr2, ho2, _, _⟩ := Lib.run_append_own_string (P := P) w w.heap.size t u ty e i ht hu hi hz hsize hby (.slice none 0 0) 0 xs ⟨hown.1, .inl ⟨rfl, rfl⟩⟩ s h63 hbytes (Nat.le_refl _)
    rw [hr] at hr2
    cases hr2
    exact .inr (ho2.lt b hb).1
  · by_cases hroom : n + s.size ≤ cap
    · have hr2 := Lib.run_append_room_string (P := P) w t u ty e i ht hu hi hsize g n cap cur hgc s hroom (by omega)
      rw [hr] at hr2
      cases hr2
      exact .inl hb
    · have holds : ∀ j u, xs[j]? = some u → w.cell? ((⟨g, 0, none⟩ : Addr).add j) = some u := hown.cells (g := g) rfl
      have hsmall : n + s.size ≤ 9223372036854775807 := by simp only [maxLen] at h63; omega
      have hr2 := Lib.run_append_grow_string (P := P) w t u ty e i (.int .u8 0) ht hu hi hz ⟨g, 0, none⟩ n cap xs (by rw [hsize]; exact hown.1) holds s (by omega) (by omega) (growslice_fits (by omega) (by rw [hby]; omega))
      rw [hr] at hr2
      cases hr2
      simp only [Value.ownBlock, Option.some.injEq] at hb
      subst hb
      exact .inr (Nat.le_refl _)

/-- an append of a text at hand: where it writes, the types, the slice, the text -/
def appsAt (N : Nat) (K : List Item) (env : Env) : Option (Option Nat × TypeId × TypeId × Value × Value) :=
  match opAt N K env with
  | some o => match o.op with
    | .call { callee := .builtin .append, args, argTypes } =>
      match args.toList, argTypes.toList with
      | [x, y], [t, t'] => some (o.dst, t, t', ev env x, ev env y)
      | _, _ => none
    | _ => none
  | none => none

theorem OK.appStr {w0 w : World} {L : List Claim} (S : Sep w0 L w) (j : Nat) {a : Option Addr} {cap : Nat} {e : TypeId} (x s : ByteArray) {K : List Item} {env : Env} (d : Nat) (t u : TypeId)
    (hj : L[j]? = some (rowOf enc8 a cap e 1 (ls x))) (h : appsAt N K env = some (some d, t, u, .slice a (ls x).length cap, .string s)) (ht : P.underlying t = some (.slice e)) (hu : P.underlying u = some .string)
    (hinfo : (P.info? e).map (fun i => (i.zero, i.size, i.bytes)) = some (some (.int .u8 0), 1, 1)) (hb : x.size + s.size ≤ 140737488355328) :
    ∃ a' cap' w', OK P N K env w (some d) (.slice a' (ls (x ++ s)).length cap') w' ∧ Sep w0 (L.set j (rowOf enc8 a' cap' e 1 (ls (x ++ s)))) w' := by
  obtain ⟨i, hi, hzz⟩ := Option.map_eq_some_iff.1 hinfo
  simp only [Prod.mk.injEq] at hzz
  obtain ⟨hz, hsize, hby⟩ := hzz
  have hown : w.ownsRow 0 e 1 (.slice a (ls x).length cap) (ls x).length ((ls x).flatMap enc8) := S.nth j hj
  have hx0 := ls_length x
  unfold appsAt at h
  split at h
  · rename_i o ho
    split at h
    · rename_i args argTypes hop
      split at h
      · rename_i xo yo t1 t2 hargs hts
        simp only [Option.some.injEq, Prod.mk.injEq] at h
        obtain ⟨hd, rfl, rfl, hx, hy⟩ := h
        obtain ⟨v', w', hr, ho', hg, hblk⟩ := run_append_str (P := P) w t1 t2 o.type e i ht hu hi hz hsize hby _ _ _ hown s (by simp only [maxLen]; omega) (by omega)
        have hlen : (ls (x ++ s)).length = (ls x).length + s.size := by rw [ls_append, List.length_append, ls_length s]
        have hfm : (ls x).flatMap enc8 ++ Lib.strCells s = (ls (x ++ s)).flatMap enc8 := by rw [ls_append, List.flatMap_append, enc8_str s]
        rw [hfm, ← hlen] at ho'
        obtain ⟨a', cap', rfl, _, _, _, _⟩ := row_cells (v := v') (e := e) (size := 1) (n := (ls (x ++ s)).length) (xs := (ls (x ++ s)).flatMap enc8) (w := w') ho'
        have hS : Sep w0 (L.set j (rowOf enc8 a' cap' e 1 (ls (x ++ s)))) w' := by
          refine S.set j hj (fun b hb' => ?_) hg.os hg.tape hg.output hg.size (fun b hb1 hb2 => hg.block b hb1 fun e => hb2 e.symm) ho'
          rcases hblk b hb' with h2 | h2
          · exact .inl h2
          · exact .inr ⟨h2, (ho'.lt b hb').2⟩
        refine ⟨a', cap', w', ⟨_, ho, hd, .inl ?_⟩, hS⟩
        have ea : args = #[xo, yo] := by rw [← hargs]
        have et : argTypes = #[t1, t2] := by rw [← hts]
        subst ea et
        generalize Value.slice a (ls x).length cap = vv at hx hr
        generalize Value.slice a' (ls (x ++ s)).length cap' = rr at hr ⊢
        unfold execOp
        simp [hop, resolve, invoke, builtin, hx, hy, hr, Result.andThen]
      · cases h
    · cases h
  · cases h

theorem J.appStr {w0 w : World} {L : List Claim} (S : Sep w0 L w) (j : Nat) {a : Option Addr} {cap : Nat} {e : TypeId} (x s : ByteArray) {K : List Item} {env : Env} (d : Nat) (t u : TypeId)
    (hj : L[j]? = some (rowOf enc8 a cap e 1 (ls x))) (h : appsAt N K env = some (some d, t, u, .slice a (ls x).length cap, .string s)) (ht : P.underlying t = some (.slice e)) (hu : P.underlying u = some .string)
    (hinfo : (P.info? e).map (fun i => (i.zero, i.size, i.bytes)) = some (some (.int .u8 0), 1, 1)) (hb : x.size + s.size ≤ 140737488355328)
    (k : ∀ a' cap' w', Sep w0 (L.set j (rowOf enc8 a' cap' e 1 (ls (x ++ s)))) w' → J P f N R (popK K) ((d, .slice a' (ls (x ++ s)).length cap') :: env) w') : J P f N R K env w := by
  obtain ⟨a', cap', w', hok, hS⟩ := OK.appStr S j x s d t u hj h ht hu hinfo hb
  exact J.ok hok (k a' cap' w' hS)

/-! pointers of a builder -/

/-- a comparison of two pointers at hand -/
def peqAt (N : Nat) (K : List Item) (env : Env) : Option (Option Nat × BinOp × TypeId × Addr × Addr) :=
  match opAt N K env with
  | some o => match o.op with
    | .binOp op t x y _ => match ev env x, ev env y with
      | .pointer (some a), .pointer (some b) => some (o.dst, op, t, a, b)
      | _, _ => none
    | _ => none
  | none => none

theorem OK.neqSame {K : List Item} {env : Env} {w : World} (d : Nat) (tp te : TypeId) (a : Addr) (h : peqAt N K env = some (some d, .neq, tp, a, a)) (hp : P.underlying tp = some (.pointer te)) (hte : (P.info? te).isSome = true) (hg : P.eqGuardType P.depth tp = false) :
    OK P N K env w (some d) (.bool false) w := by
  obtain ⟨j, hj⟩ := Option.isSome_iff_exists.1 hte
  have hr := Lib.run_neq_ptr_same (P := P) w a hp hj
  unfold peqAt at h
  split at h
  · rename_i o ho
    split at h
    · rename_i op t x y t2 hop
      split at h
      · rename_i a1 b1 hx hy
        simp only [Option.some.injEq, Prod.mk.injEq] at h
        obtain ⟨hd, rfl, rfl, rfl, rfl⟩ := h
        refine ⟨o, ho, hd, .inl ?_⟩
        unfold execOp
        simp [hop, hx, hy, eqGuard, hg, hr, Result.andThen]
      · cases h
    · cases h
  · cases h

theorem box_shape {w : World} {b : Nat} {cs : List Value} {T : TypeId} (h : (box b cs T).holds w) : w.shape? b = some (T, cs.length) := by
  have h' : w.heap[b]? = some (.cells cs.toArray T (0, 0)) := h
  simp [World.shape?, h']

/-- a pointer to a variable of the call's own, turned to unsafe.Pointer -/
theorem OK.toUnsafe {w0 w : World} {L : List Claim} (S : Sep w0 L w) (i : Nat) {b : Nat} {cs : List Value} {T : TypeId} {K : List Item} {env : Env} (d : Nat) (s t e : TypeId) (hi : L[i]? = some (box b cs T)) (h : cvAt N K env = some (some d, s, t, .pointer (some ⟨b, 0, none⟩)))
    (hs : P.underlying s = some (.pointer e)) (ht : P.underlying t = some .unsafePointer) (he : (P.info? e).any (fun i => i.size != 0) = true) (hl : 0 < cs.length) : OK P N K env w (some d) (.pointer (some ⟨b, 0, none⟩)) w := by
  obtain ⟨j, hj, hz⟩ := (Option.any_eq_true _ _).1 he
  exact OK.conv d s t _ _ h (Lib.run_to_unsafe (P := P) w ⟨b, 0, none⟩ hs ht hj (by simpa using hz) (box_shape (S.nth i hi)) hl)

/-- .. and back -/
theorem OK.fromUnsafe {w0 w : World} {L : List Claim} (S : Sep w0 L w) (i : Nat) {b : Nat} {cs : List Value} {T : TypeId} {K : List Item} {env : Env} (d : Nat) (s t u : TypeId) (hi : L[i]? = some (box b cs T)) (h : cvAt N K env = some (some d, s, t, .pointer (some ⟨b, 0, none⟩)))
    (hs : P.underlying s = some .unsafePointer) (ht : P.underlying t = some (.pointer u)) (hu : (P.info? u).isSome = true) (hl : liesAt P P.depth T (cs.length / P.cellsOf T) 0 u 1 = true) : OK P N K env w (some d) (.pointer (some ⟨b, 0, none⟩)) w := by
  obtain ⟨j, hj⟩ := Option.isSome_iff_exists.1 hu
  exact OK.conv d s t _ _ h (Lib.run_from_unsafe (P := P) w ⟨b, 0, none⟩ hs ht hj (box_shape (S.nth i hi)) hl)
end

/-! what a call leaves that may turn any slice of elements of one type -/

/-- no block that the claim speaks of is a row of elements of type e -/
def Off (e : TypeId) (c : Claim) : Prop := ∀ w, c.holds w → ∀ b, c.foot b → ∃ o, w.heap[b]? = some o ∧ ∀ cs fz, o ≠ .cells cs e fz
theorem off_box {e : TypeId} (b : Nat) (cs : List Value) (T : TypeId) (h : T ≠ e) : Off e (box b cs T) := by
  intro w hw b' hb
  have hb' : b' = b := hb
  subst hb'
  exact ⟨_, hw, fun cs' fz h' => h (by cases h'; rfl)⟩
def Offs (e : TypeId) (L : List Claim) : Prop := ∀ c ∈ L, Off e c
theorem offs_nil (e : TypeId) : Offs e [] := fun _ h => by cases h
theorem offs_cons {e : TypeId} {c : Claim} {L : List Claim} (h : Off e c) (k : Offs e L) : Offs e (c :: L) := fun d hd => by
  rcases List.mem_cons.1 hd with rfl | hd
  · exact h
  · exact k d hd

theorem Sep.others {w0 w w' : World} {c1 c2 : Claim} {L : List Claim} {e : TypeId} {b : Nat} (S : Sep w0 (c1 :: c2 :: L) w) (hb : c1.foot b) (hoff : Offs e L) (hbel : Below w0.heap.size w w') (hk : Lib.OthersKept e (some b) w w') : Sep w0 L w' := by
  have hw := S.below
  have ha := S.apart
  simp only [List.pairwise_cons] at ha
  refine ⟨S.below.trans hbel, fun c hc => ?_, fun c hc k hf => ?_, ha.2.2⟩
  · have hc' : c ∈ c1 :: c2 :: L := by simp [hc]
    refine c.stable w w' (fun k hf => ?_) (S.all c hc')
    obtain ⟨o, ho, hne⟩ := hoff c hc w (S.all c hc') k hf
    rw [ho]
    refine hk k o ho (fun h => ?_) hne
    simp only [Option.some.injEq] at h
    subst h
    exact ha.1 c (by simp [hc]) k hb hf
  · have hc' : c ∈ c1 :: c2 :: L := by simp [hc]
    have := S.fresh c hc' k hf
    exact ⟨this.1, Nat.lt_of_lt_of_le this.2 hbel.size⟩

theorem Sep.builder {w0 w : World} {L : List Claim} {T e : TypeId} {b : Nat} {p : Option Addr} {a : Option Addr} {cap : Nat} {x : ByteArray} (S : Sep w0 (box b [.pointer p, .slice a (ls x).length cap] T :: rowOf enc8 a cap e 1 (ls x) :: L) w)
    (hp : p = none ∨ p = some ⟨b, 0, none⟩) : Lib.IsBuilderF T e w0.heap.size b (Lib.byteCells (ls x)) w := by
  have h0 := S.nth 0 rfl
  have h1 : w.ownsRow 0 e 1 (.slice a (ls x).length cap) (ls x).length ((ls x).flatMap enc8) := S.nth 1 rfl
  have hf0 := S.fresh _ (List.mem_cons_self ..) b rfl
  have hap := S.apart
  simp only [List.pairwise_cons] at hap
  have hcells : (ls x).flatMap enc8 = Lib.byteCells (ls x) := by
    unfold Lib.byteCells
    generalize ls x = l
    induction l with
    | nil => rfl
    | cons c l ih => rw [List.flatMap_cons, ih]; rfl
  have hblen : (Lib.byteCells (ls x)).length = (ls x).length := by rw [← hcells]; generalize ls x = l; induction l with
    | nil => rfl
    | cons c l ih => rw [List.flatMap_cons, List.length_append, ih]; show 1 + l.length = _; rw [List.length_cons]; omega
  have key : ∀ q, q = p → Lib.BuilderAt T e w0.heap.size b (.pointer q) (Lib.byteCells (ls x)) w := by
    rintro q rfl
    refine ⟨hf0.1, .slice a (ls x).length cap, h0, ?_, ?_⟩
    · rw [hblen, ← hcells]
      refine ⟨h1.1, ?_⟩
      rcases h1.2 with hn | ⟨g, cap', cur, hv, hb, rest⟩
      · exact .inl hn
      · refine .inr ⟨g, cap', cur, hv, ?_, rest⟩
        exact (S.fresh _ (List.mem_cons_of_mem _ (List.mem_cons_self ..)) g (by show Value.ownBlock _ = some g; rw [hv]; rfl)).1
    · intro h
      exact hap.1 _ (List.mem_cons_self ..) b rfl h
  refine Lib.IsBuilderF.of ?_
  rcases hp with rfl | rfl
  · exact .inl (key _ rfl)
  · exact .inr (key _ rfl)
end Go.Eng

