/- The proof engine, seventeenth part: maps of the call's own, and slices of the call's own that are taken from the front. Conditions: none; it is generic in the program. -/
import Derived.Test.YtbbpgidmadlgmaaZdEng13
import Derived.Lib.ConvBytes
import Derived.Lib.AtoiErrMem
import Derived.Lib.SlBytesConst
import Derived.WideMake
import Derived.WideKeyRuns
namespace Go.Eng
set_option linter.unusedSimpArgs false
set_option linter.unusedVariables false
open Go.RowKit
variable {P : Program} {f : FuncId} {N : Nat} {R : Value → World → Prop}

/-- the place and the value of a key in a list of entries -/
def findL {κ ν : Type} [DecidableEq κ] : List (κ × ν) → κ → Nat → Option (Nat × ν)
  | [], _, _ => none
  | p :: l, k, i => if k = p.1 then some (i, p.2) else findL l k (i + 1)

/-- values that may be keys of a type, and whose '==' is the equality -/
structure KeyOK {κ : Type} [DecidableEq κ] (P : Program) (kt : TypeId) (kf : κ → Value) : Prop where
  check : ∀ (k : κ) (e : Bool) (w : World), (Instr.checkKey e 10000 kt (kf k)).run P w = .ok () w
  find : ∀ (k : κ) (l : List (κ × Value)) (es : List MapEntry) (w : World), es.map (fun e => (e.key, e.val)) = l.map (fun p => (kf p.1, p.2)) → (Instr.findKey kt (kf k) es).run P w = .ok (findL l k 0) w
  same : ∀ k, Instr.sameBits 10000 (kf k) (kf k) = true

theorem findNow_int (q : IntKind) (k : Int) : ∀ (l : List (Int × Value)) (es : List MapEntry) (i : Nat), es.map (fun e => (e.key, e.val)) = l.map (fun p => (Value.int q p.1, p.2)) → Instr.findNow (.int q) (.int q k) es i = some (findL l k i)
  | [], [], i, _ => rfl
  | [], _ :: _, i, h => by cases h
  | _ :: _, [], i, h => by cases h
  | p :: l, e :: es, i, h => by
    simp only [List.map_cons, List.cons.injEq, Prod.mk.injEq] at h
    obtain ⟨⟨h1, h2⟩, h3⟩ := h
    have ih := findNow_int q k l es (i + 1) h3
    by_cases hk : k = p.1
    · simp [Instr.findNow, Instr.sameNow, h1, h2, findL, hk]
    · have hb : (k == p.1) = false := beq_eq_false_iff_ne.2 hk
      simp [Instr.findNow, Instr.sameNow, h1, findL, hk, hb, ih]

def isI64 (P : Program) (t : TypeId) : Bool := match P.underlying t with | some (.int .i64) => true | _ => false
theorem isI64_of {t : TypeId} (h : isI64 P t = true) : P.underlying t = some (.int .i64) := by
  unfold isI64 at h
  split at h
  · assumption
  · cases h

theorem KeyOK.int {kt : TypeId} (h : isI64 P kt = true) : KeyOK P kt (Value.int .i64) := by
  have hu : P.underlying kt = some (.int .i64) := isI64_of h
  exact ⟨fun k e w => MapKept.run_checkKey (k := .int .i64 k) hu rfl e 9999, fun k l es w he => MapKept.run_findKey hu (findNow_int .i64 k l es 0 he), fun k => by simp [Instr.sameBits]⟩

/-- a struct of two integers, or an array of two -/
def twoB (P : Program) (t : TypeId) : Bool :=
  match P.underlying t with
  | some (.struct fs) => match fs.toList with
    | [a, b] => a.name != "_" && b.name != "_" && a.offset == 0 && b.offset == 1 && isI64 P a.type && isI64 P b.type
    | _ => false
  | some (.array 2 e) => isI64 P e && (P.info? e).map (·.size) == some 1
  | _ => false

abbrev twoV (k : Int × Int) : Value := .agg #[.int .i64 k.1, .int .i64 k.2]

theorem run_part_i64 {t : TypeId} (h : isI64 P t = true) (cs : Array Value) (i : Nat) {v : Value} (hv : cs[i]? = some v) (w : World) : (part t cs i).run P w = .ok v w := by
  have hu : P.underlying t = some (.int .i64) := isI64_of h
  unfold part
  rw [Sem.run_bind, run_isAgg hu w, Result.andThen_ok]
  simp [aggB, hv]

theorem check_two {t : TypeId} (h : twoB P t = true) (k : Int × Int) (e : Bool) (w : World) : (Instr.checkKey e 10000 t (twoV k)).run P w = .ok () w := by
  have leaf : ∀ (t' : TypeId) (x : Int), isI64 P t' = true → (Instr.checkKey e 9999 t' (.int .i64 x)).run P w = .ok () w := fun t' x h' => MapKept.run_checkKey (k := .int .i64 x) (isI64_of h') rfl e 9998
  unfold twoB at h
  unfold Instr.checkKey
  split at h
  · rename_i fs hu
    split at h
    · rename_i a b hfs
      simp only [Bool.and_eq_true, bne_iff_ne, beq_iff_eq, ne_eq] at h
      obtain ⟨⟨⟨⟨⟨h1, h2⟩, h3⟩, h4⟩, h5⟩, h6⟩ := h
      have e1 : fs = #[a, b] := Array.ext' (by simpa using hfs)
      subst e1
      rw [Sem.run_bind, run_underlying hu w, Result.andThen_ok]
      simp [h1, h2, h3, h4, Sem.run_bind, run_part_i64 h5 #[.int .i64 k.1, .int .i64 k.2] 0 rfl, run_part_i64 h6 #[.int .i64 k.1, .int .i64 k.2] 1 rfl, leaf _ _ h5, leaf _ _ h6, Result.andThen]
    · cases h
  · rename_i el hu
    simp only [Bool.and_eq_true, beq_iff_eq] at h
    obtain ⟨h1, h2⟩ := h
    obtain ⟨i, hi, hs⟩ := Option.map_eq_some_iff.1 h2
    rw [Sem.run_bind, run_underlying hu w, Result.andThen_ok]
    simp [Std.Legacy.Range.forIn_eq_forIn_range', Std.Legacy.Range.size, List.range', Sem.run_bind, run_sizeOf hi, hs, run_part_i64 h1 #[.int .i64 k.1, .int .i64 k.2] 0 rfl, run_part_i64 h1 #[.int .i64 k.1, .int .i64 k.2] 1 rfl, leaf _ _ h1, Result.andThen]
  · cases h

theorem findAsking_two {t : TypeId} (h : ∀ a b c d : Int, eqB P 10000 t (twoV (a, b)) (twoV (c, d)) = some ((a == c) && ((b == d) && true))) (k : Int × Int) (w : World) : ∀ (l : List ((Int × Int) × Value)) (es : List MapEntry) (i : Nat),
    es.map (fun e => (e.key, e.val)) = l.map (fun p => (twoV p.1, p.2)) → (Instr.findAsking t (twoV k) es i).run P w = .ok (findL l k i) w
  | [], [], i, _ => by simp [Instr.findAsking, findL]
  | [], _ :: _, i, h => by cases h
  | _ :: _, [], i, h => by cases h
  | p :: l, e :: es, i, he => by
    simp only [List.map_cons, List.cons.injEq, Prod.mk.injEq] at he
    obtain ⟨⟨h1, h2⟩, h3⟩ := he
    have ih := findAsking_two h k w l es (i + 1) h3
    have hr := eqB_run (w := w) 10000 (h k.1 k.2 p.1.1 p.1.2)
    unfold Instr.findAsking
    rw [h1, Sem.run_bind]
    show ((Op.equalIn 10000 t (twoV (k.1, k.2)) (twoV (p.1.1, p.1.2))).run P w).andThen _ = _
    rw [hr, Result.andThen_ok]
    unfold findL
    by_cases hk : k = p.1
    · rw [if_pos hk, hk, h2]
      simp
    · rw [if_neg hk]
      have hb : ((k.1 == p.1.1) && ((k.2 == p.1.2) && true)) = false := by
        cases hx : ((k.1 == p.1.1) && ((k.2 == p.1.2) && true)) with
        | false => rfl
        | true =>
          simp only [Bool.and_true, Bool.and_eq_true, beq_iff_eq] at hx
          exact absurd (Prod.ext hx.1 hx.2) hk
      rw [hb]
      simpa using ih

theorem KeyOK.two {kt : TypeId} (h : twoB P kt = true) (he : ∀ a b c d : Int, eqB P 10000 kt (twoV (a, b)) (twoV (c, d)) = some ((a == c) && ((b == d) && true))) : KeyOK P kt twoV := by
  refine ⟨fun k e w => check_two h k e w, fun k l es w hes => ?_, fun k => by simp [Instr.sameBits]⟩
  rw [run_findKey_eq w (by unfold twoB at h; split at h <;> simp_all)]
  exact findAsking_two he k w l es 0 hes

/-- a map of the call's own: what it holds for each key -/
def mapC {κ ν : Type} [DecidableEq κ] (kf : κ → Value) (vf : ν → Value) (b : Nat) (F : κ → Option ν) : Claim :=
  ⟨(· = b), fun w => ∃ (es : Array MapEntry) (clock : Nat) (l : List (κ × ν)), w.heap[b]? = some (.map es clock) ∧ es.toList.map (fun e => (e.key, e.val)) = l.map (fun p => (kf p.1, vf p.2)) ∧ ∀ k, (findL l k 0).map (·.2) = F k,
    fun w w' h hw => by rw [h b rfl]; exact hw⟩

def updF {κ ν : Type} [DecidableEq κ] (F : κ → Option ν) (k : κ) (v : ν) : κ → Option ν := fun x => if x = k then some v else F x
theorem updF_at {κ ν : Type} [DecidableEq κ] (F : κ → Option ν) (k : κ) (v : ν) : updF F k v k = some v := if_pos rfl
theorem updF_ne {κ ν : Type} [DecidableEq κ] (F : κ → Option ν) {k x : κ} (v : ν) (h : x ≠ k) : updF F k v x = F x := if_neg h

theorem findL_map {κ ν μ : Type} [DecidableEq κ] (g : ν → μ) (k : κ) : ∀ (l : List (κ × ν)) (i : Nat), findL (l.map fun p => (p.1, g p.2)) k i = (findL l k i).map fun p => (p.1, g p.2)
  | [], _ => rfl
  | p :: l, i => by
    simp only [List.map_cons, findL]
    split
    · rfl
    · exact findL_map g k l (i + 1)
theorem findL_none {κ ν : Type} [DecidableEq κ] {k : κ} : ∀ {l : List (κ × ν)} {i : Nat}, findL l k i = none → ∀ v x, (findL (l ++ [(k, v)]) x i).map (·.2) = if x = k then some v else (findL l x i).map (·.2)
  | [], i, _, v, x => by
    simp only [List.nil_append, findL]
    split <;> simp_all
  | p :: l, i, h, v, x => by
    simp only [findL] at h
    split at h
    · cases h
    · rename_i hk
      simp only [List.cons_append, findL]
      split
      · rename_i hx
        rw [if_neg (fun e => hk (by rw [← e, hx]))]
      · exact findL_none h v x
theorem findL_at {κ ν : Type} [DecidableEq κ] {k : κ} : ∀ {l : List (κ × ν)} {i j : Nat} {u : ν}, findL l k i = some (j, u) → ∃ n, j = i + n ∧ n < l.length ∧ (∀ p, l[n]? = some p → p.1 = k) ∧ ∀ v x i', (findL (l.set n (k, v)) x i').map (·.2) = if x = k then some v else (findL l x i').map (·.2)
  | [], i, j, u, h => by cases h
  | p :: l, i, j, u, h => by
    simp only [findL] at h
    split at h
    · rename_i hk
      simp only [Option.some.injEq, Prod.mk.injEq] at h
      refine ⟨0, by omega, by simp, fun q hq => (by simp at hq; rw [← hq, hk]), fun v x i' => ?_⟩
      simp only [List.set_cons_zero, findL]
      by_cases hx : x = k
      · rw [if_pos hx, if_pos hx]; rfl
      · rw [if_neg hx, if_neg hx, if_neg (by rw [← hk]; exact hx)]
    · rename_i hk
      obtain ⟨n, h1, h2, h3, h4⟩ := findL_at h
      refine ⟨n + 1, by omega, by simp; omega, fun q hq => h3 q (by simpa using hq), fun v x i' => ?_⟩
      simp only [List.set_cons_succ, findL]
      by_cases hx : x = p.1
      · rw [if_pos hx, if_pos hx, if_neg (fun e => hk (by rw [← e, hx]))]
      · rw [if_neg hx, if_neg hx]; exact h4 v x (i' + 1)

/-- a lookup at hand -/
def lkAt (N : Nat) (K : List Item) (env : Env) : Option (Option Nat × TypeId × Value × Value × Bool) :=
  match opAt N K env with
  | some o => match o.op with
    | .lookup t x y ok => some (o.dst, t, ev env x, ev env y, ok)
    | _ => none
  | none => none

/-- a map's type: the key's and the element's -/
def mapTy (P : Program) (t : TypeId) : Option (TypeId × TypeId × Value) :=
  match P.underlying t with
  | some (.map k e) => match (P.info? e).map (·.zero) with
    | some (some z) => some (k, e, z)
    | _ => none
  | _ => none

theorem run_zeroV {e : TypeId} {z : Value} (h : (P.info? e).map (·.zero) = some (some z)) (w : World) : (zeroValue e).run P w = .ok z w := by
  obtain ⟨i, hi, hz⟩ := Option.map_eq_some_iff.1 h
  simp [zeroValue, typeInfo, hi, hz]

theorem OK.lookup {κ ν : Type} [DecidableEq κ] {kf : κ → Value} {vf : ν → Value} {w0 w : World} {L : List Claim} (S : Sep w0 L w) (j : Nat) {b : Nat} {F : κ → Option ν} {K : List Item} {env : Env} (d : Nat) (t kt et : TypeId) (z : Value) (k : κ) (ok : Bool)
    (hj : L[j]? = some (mapC kf vf b F)) (h : lkAt N K env = some (some d, t, .map (some b), kf k, ok)) (ht : mapTy P t = some (kt, et, z)) (hk : KeyOK P kt kf) (v : Value)
    (hv : v = if ok then .tuple #[((F k).map vf).getD z, .bool (F k).isSome] else ((F k).map vf).getD z) : OK P N K env w (some d) v w := by
  obtain ⟨es, clock, l, hb, hl, hF⟩ : (mapC kf vf b F).holds w := S.nth j hj
  unfold mapTy at ht
  split at ht
  · rename_i k' e' hu
    split at ht
    · rename_i z' hz
      simp only [Option.some.injEq, Prod.mk.injEq] at ht
      obtain ⟨rfl, rfl, rfl⟩ := ht
      unfold lkAt at h
      split at h
      · rename_i o ho
        split at h
        · rename_i t' x y ok' hop
          simp only [Option.some.injEq, Prod.mk.injEq] at h
          obtain ⟨hd, rfl, hx, hy, rfl⟩ := h
          refine ⟨o, ho, hd, .inl ?_⟩
          have hf := hk.find k (l.map fun p => (p.1, vf p.2)) es.toList w (by rw [hl, List.map_map]; rfl)
          rw [findL_map] at hf
          have hFk := hF k
          unfold execOp
          simp only [hop, hx, hy]
          subst hv
          cases hfl : findL l k 0 with
          | none =>
            rw [hfl] at hf hFk
            have hFk' : F k = none := hFk.symm
            cases ok' <;> simp [Instr.lookup, run_underlying hu, MapKept.run_getObj_map hb, hk.check, hf, run_zeroV hz, Result.andThen, hFk']
          | some p =>
            rw [hfl] at hf hFk
            have hFk' : F k = some p.2 := hFk.symm
            cases ok' <;> simp [Instr.lookup, run_underlying hu, MapKept.run_getObj_map hb, hk.check, hf, Result.andThen, hFk']
        · cases h
      · cases h
    · cases ht
  · cases ht

theorem lk_bool (o : Option Bool) : Value.bool (o.getD false) = (o.map Value.bool).getD (.bool false) := by cases o <;> rfl
/-- a map's update at hand -/
def muAt (N : Nat) (K : List Item) (env : Env) : Option (Option Nat × TypeId × Value × Value × Value) :=
  match opAt N K env with
  | some o => match o.op with
    | .mapUpdate t m x y => some (o.dst, t, ev env m, ev env x, ev env y)
    | _ => none
  | none => none

theorem Sep.setMap {κ ν : Type} [DecidableEq κ] {kf : κ → Value} {vf : ν → Value} {w0 w : World} {L : List Claim} (S : Sep w0 L w) (j : Nat) {b : Nat} {F F' : κ → Option ν} (hj : L[j]? = some (mapC kf vf b F)) {es es' : Array MapEntry} {clock clock' : Nat} {l' : List (κ × ν)}
    (hb : w.heap[b]? = some (.map es clock)) (hl : es'.toList.map (fun e => (e.key, e.val)) = l'.map (fun p => (kf p.1, vf p.2))) (hF : ∀ k, (findL l' k 0).map (·.2) = F' k) :
    Sep w0 (L.set j (mapC kf vf b F')) { w with heap := w.heap.setIfInBounds b (.map es' clock') } := by
  refine S.set j hj (fun b' hb' => .inl hb') rfl rfl rfl (by simp) (fun b' _ hn => (MapKept.heap_set hb).2 b' (fun e => hn e)) ?_
  exact ⟨es', clock', l', (MapKept.heap_set hb).1, hl, hF⟩

theorem J.mapUpdate {κ ν : Type} [DecidableEq κ] {kf : κ → Value} {vf : ν → Value} {w0 w : World} {L : List Claim} (S : Sep w0 L w) (j : Nat) {b : Nat} {F : κ → Option ν} {K : List Item} {env : Env} (t kt et : TypeId) (z : Value) (k : κ) (x : ν)
    (hj : L[j]? = some (mapC kf vf b F)) (h : muAt N K env = some (none, t, .map (some b), kf k, vf x)) (ht : mapTy P t = some (kt, et, z)) (hk : KeyOK P kt kf)
    (c : ∀ w', Sep w0 (L.set j (mapC kf vf b (updF F k x))) w' → J P f N R (popK K) env w') : J P f N R K env w := by
  obtain ⟨es, clock, l, hb, hl, hF⟩ : (mapC kf vf b F).holds w := S.nth j hj
  unfold mapTy at ht
  split at ht
  · rename_i k' e' hu
    split at ht
    · rename_i z' hz
      simp only [Option.some.injEq, Prod.mk.injEq] at ht
      obtain ⟨rfl, rfl, rfl⟩ := ht
      unfold muAt at h
      split at h
      · rename_i o ho
        split at h
        · rename_i t' m x' y hop
          simp only [Option.some.injEq, Prod.mk.injEq] at h
          obtain ⟨hd, rfl, hm, hx, hy⟩ := h
          have hf := hk.find k (l.map fun p => (p.1, vf p.2)) es.toList w (by rw [hl, List.map_map]; rfl)
          rw [findL_map] at hf
          cases hfl : findL l k 0 with
          | none =>
            rw [hfl] at hf
            have hrun : (Instr.mapUpdate t' (.map (some b)) (kf k) (vf x)).run P w = .ok () { w with heap := w.heap.setIfInBounds b (.map (es.push { key := kf k, val := vf x, born := clock }) (clock + 1)) } := by
              simp [Instr.mapUpdate, run_underlying hu, MapKept.run_getObj_map hb, hk.check, hf, MapKept.run_setObj_map _ hb, Result.andThen]
            refine J.ok ⟨o, ho, hd, .inr ⟨rfl, ?_⟩⟩ (c _ (S.setMap j hj (es' := es.push { key := kf k, val := vf x, born := clock }) (clock' := clock + 1) (l' := l ++ [(k, x)]) hb (by simp [hl]) fun y => ?_))
            · unfold execOp; simp only [hop, hm, hx, hy]; simp [hrun, Result.andThen]
            · rw [findL_none hfl, hF]; rfl
          | some p =>
            rw [hfl] at hf
            obtain ⟨n, h1, h2, h3, h4⟩ := findL_at (j := p.1) (u := p.2) (by rw [hfl])
            rw [Nat.zero_add] at h1
            have hlen : l.length = es.size := by have := congrArg List.length hl; simpa using this.symm
            have hn : n < es.size := by omega
            have hkey : es[n].key = kf k := by
              have e1 : (es.toList.map (fun e => (e.key, e.val)))[n]? = some (es[n].key, es[n].val) := by simp [hn]
              rw [hl, List.getElem?_map] at e1
              cases hq : l[n]? with
              | none => rw [hq] at e1; cases e1
              | some q =>
                rw [hq] at e1
                simp only [Option.map_some, Option.some.injEq, Prod.mk.injEq] at e1
                rw [← e1.1, h3 q hq]
            have hks : (Instr.keyThatStays (kf k) (kf k)).run P w = .ok (kf k) w := by simp [Instr.keyThatStays, hk.same]
            have hrun : (Instr.mapUpdate t' (.map (some b)) (kf k) (vf x)).run P w = .ok () { w with heap := w.heap.setIfInBounds b (.map (es.modify n fun e => { e with key := kf k, val := vf x }) clock) } := by
              simp [Instr.mapUpdate, run_underlying hu, MapKept.run_getObj_map hb, hk.check, hf, h1, hn, hkey, hks, MapKept.run_setObj_map _ hb, Result.andThen]
            refine J.ok ⟨o, ho, hd, .inr ⟨rfl, ?_⟩⟩ (c _ (S.setMap j hj (es' := es.modify n fun e => { e with key := kf k, val := vf x }) (clock' := clock) (l' := l.set n (k, x)) hb ?_ fun y => ?_))
            · unfold execOp; simp only [hop, hm, hx, hy]; simp [hrun, Result.andThen]
            · apply List.ext_getElem?
              intro i
              have e2 := congrArg (fun z => z[i]?) hl
              simp only [List.getElem?_map, Array.getElem?_toList] at e2
              rw [List.getElem?_map, List.getElem?_map, Array.getElem?_toList, Array.getElem?_modify, List.getElem?_set]
              by_cases hi : n = i
              · subst hi
                simp [hn, h2]
              · rw [if_neg hi, if_neg hi]; exact e2
            · rw [h4, hF]; rfl
        · cases h
      · cases h
    · cases ht
  · cases ht

theorem Sep.allocMap {κ ν : Type} [DecidableEq κ] (kf : κ → Value) (vf : ν → Value) {w0 w : World} {L : List Claim} (S : Sep w0 L w) : Sep w0 (mapC kf vf w.heap.size (fun _ => none) :: L) (w.alloc (.map #[] 0)) := by
  have h1 : Sep w [mapC kf vf w.heap.size (fun _ => none)] (w.alloc (.map #[] 0)) := by
    refine ⟨(Below.refl _ _).alloc (Nat.le_refl _) _, fun c hc => ?_, fun c hc b hb => ?_, by simp⟩
    · simp only [List.mem_singleton] at hc; subst hc
      exact ⟨#[], 0, [], heap_alloc_new w _, rfl, fun k => rfl⟩
    · simp only [List.mem_singleton] at hc; subst hc
      have : b = w.heap.size := hb
      subst this
      exact ⟨Nat.le_refl _, by simp⟩
  exact S.trans h1

theorem J.newMap {κ ν : Type} [DecidableEq κ] (kf : κ → Value) (vf : ν → Value) {w0 w : World} {L : List Claim} (S : Sep w0 L w) (d : Nat) {K : List Item} {env : Env}
    (h : opRun P N K env w = some (some d, .ok (.value (.map (some w.heap.size))) (w.alloc (.map #[] 0))))
    (k : ∀ b w', Sep w0 (mapC kf vf b (fun _ => none) :: L) w' → J P f N R (popK K) ((d, .map (some b)) :: env) w') : J P f N R K env w := by
  obtain ⟨o, ho, hd, hr⟩ := opRun_spec h
  exact J.ok ⟨o, ho, hd, .inl hr⟩ (k _ _ (S.allocMap kf vf))

/-! slices of the call's own that are taken from the front -/

def quC {α : Type} (enc : α → List Value) (a : Option Addr) (cap : Nat) (e : TypeId) (size : Nat) (l : List α) : Claim :=
  ⟨fun b => a.map (·.block) = some b, fun w => ∃ g off cur, a = some ⟨g, off, none⟩ ∧ w.heap[g]? = some (.cells cur e (0, 0)) ∧ l.length ≤ cap ∧ cap ≤ maxLen ∧ off + cap * size ≤ cur.size ∧ (cur.toList.drop off).take (l.length * size) = l.flatMap enc,
    fun w w' h hw => by
      obtain ⟨g, off, cur, rfl, h2⟩ := hw
      exact ⟨g, off, cur, rfl, by rw [h g rfl]; exact h2⟩⟩

theorem addO (g off q : Nat) : (⟨g, off, none⟩ : Addr).add q = ⟨g, off + q, none⟩ := by unfold Addr.add; split <;> simp_all
theorem flat_len {α : Type} {enc : α → List Value} {size : Nat} (hs : ∀ x, (enc x).length = size) : ∀ l : List α, (l.flatMap enc).length = l.length * size
  | [] => by simp
  | x :: l => by rw [List.flatMap_cons, List.length_append, hs, flat_len hs l, List.length_cons, Nat.add_mul]; omega

theorem Sep.toQu {α : Type} (enc : α → List Value) {w0 w : World} {L : List Claim} (S : Sep w0 L w) (j : Nat) {b : Nat} {cs : List Value} {T : TypeId} (hj : L[j]? = some (box b cs T)) (l : List α) (size : Nat) (hc : cs = l.flatMap enc) (hs : ∀ x, (enc x).length = size) (hm : l.length ≤ 1000000) :
    Sep w0 (L.set j (quC enc (some ⟨b, 0, none⟩) l.length T size l)) w := by
  have hb : w.heap[b]? = some (.cells cs.toArray T (0, 0)) := S.nth j hj
  refine S.set j hj (fun b' hb' => .inl ?_) rfl rfl rfl (Nat.le_refl _) (fun _ _ _ => rfl) ⟨b, 0, cs.toArray, rfl, hb, Nat.le_refl _, by simp only [maxLen]; omega, ?_, ?_⟩
  · have : some b = some b' := hb'
    exact (Option.some.inj this).symm
  · have := flat_len hs l; simp [hc, this]
  · have := flat_len hs l
    rw [hc, List.drop_zero]
    exact List.take_of_length_le (by simp [this])

theorem Sep.quDrop {α : Type} {enc : α → List Value} {w0 w : World} {L : List Claim} (S : Sep w0 L w) (j : Nat) {a : Option Addr} {cap : Nat} {e : TypeId} {size : Nat} {l : List α} (hj : L[j]? = some (quC enc a cap e size l)) (hs : ∀ x, (enc x).length = size) (hl : 0 < l.length) :
    Sep w0 (L.set j (quC enc (subA a cap 1 size) (cap - 1) e size (l.drop 1))) w := by
  obtain ⟨g, off, cur, rfl, hb, h1, h2, h3, h4⟩ : (quC enc a cap e size l).holds w := S.nth j hj
  cases l with
  | nil => simp at hl
  | cons x l =>
    have hlx : (x :: l).length = l.length + 1 := rfl
    have hsub : ∃ o2, subA (some ⟨g, off, none⟩) cap 1 size = some ⟨g, o2, none⟩ ∧ ((cap = 1 ∧ o2 = off) ∨ (cap ≠ 1 ∧ o2 = off + size)) := by
      unfold subA
      by_cases hc : cap = 1
      · exact ⟨off, by rw [if_pos hc], .inl ⟨hc, rfl⟩⟩
      · refine ⟨off + size, ?_, .inr ⟨hc, rfl⟩⟩
        rw [if_neg hc, Option.map_some, Nat.one_mul]
        unfold Addr.add; split
        · rename_i h0; subst h0; rfl
        · rfl
    obtain ⟨o2, he, ho⟩ := hsub
    refine S.set j hj (fun b' hb' => .inl ?_) rfl rfl rfl (Nat.le_refl _) (fun _ _ _ => rfl) ?_
    · rw [he] at hb'; exact hb'
    · refine ⟨g, o2, cur, he, hb, by rw [List.drop_one, List.tail_cons]; omega, by omega, ?_, ?_⟩
      · rcases ho with ⟨hc, rfl⟩ | ⟨hc, rfl⟩
        · subst hc; simp; omega
        · have : (cap - 1) * size + size = cap * size := by rw [← Nat.succ_mul, Nat.succ_eq_add_one, Nat.sub_add_cancel (by omega)]
          omega
      · rw [List.drop_one, List.tail_cons]
        rcases ho with ⟨hc, rfl⟩ | ⟨hc, rfl⟩
        · have : l = [] := List.eq_nil_of_length_eq_zero (by omega)
          subst this; simp
        · rw [List.flatMap_cons, hlx, Nat.add_mul, Nat.one_mul, Nat.add_comm] at h4
          have h5 := congrArg (List.drop size) h4
          have h6 : (enc x ++ l.flatMap enc).drop size = l.flatMap enc := by rw [← hs x, List.drop_left]
          rw [List.drop_take, List.drop_drop, Nat.add_sub_cancel_left, h6] at h5
          exact h5

theorem quC_cells {α : Type} {enc : α → List Value} {w : World} {a : Option Addr} {cap : Nat} {e : TypeId} {size : Nat} {l : List α} (h : (quC enc a cap e size l).holds w) : Cells w a (l.flatMap enc) := by
  obtain ⟨g, off, cur, rfl, hb, h1, h2, h3, h4⟩ := h
  intro j v hj
  refine ⟨_, rfl, ?_⟩
  have hadd : (⟨g, off, none⟩ : Addr).add j = ⟨g, off + j, none⟩ := by unfold Addr.add; split <;> simp_all
  rw [hadd]
  rw [← h4, List.getElem?_take] at hj
  split at hj
  · rw [List.getElem?_drop] at hj
    simp [World.cell?, hb]
    simpa using hj
  · cases hj
theorem quC_facts {α : Type} {enc : α → List Value} {w : World} {a : Option Addr} {cap : Nat} {e : TypeId} {size : Nat} {l : List α} (h : (quC enc a cap e size l).holds w) : l.length ≤ cap ∧ cap ≤ 9223372036854775807 := by
  obtain ⟨g, off, cur, rfl, hb, h1, h2, h3, h4⟩ := h
  exact ⟨h1, by simpa [maxLen] using h2⟩
theorem quC_recs {α : Type} {enc : α → List Value} {w : World} {a : Option Addr} {cap : Nat} {e : TypeId} {s : Nat} {l : List α} (h : (quC enc a cap e s l).holds w) (n : Nat) (hn : l.length = n) (hs : ∀ x, (enc x).length = s) (h0 : 0 < s) : Recs enc s w a n l :=
  ⟨hn, hs, h0, quC_cells h⟩

theorem run_append_qu {α : Type} (enc : α → List Value) {w0 w : World} {L : List Claim} (S : Sep w0 L w) (j : Nat) {a : Option Addr} {cap : Nat} {e : TypeId} {size : Nat} (l : List α) (x : α) (t ty : TypeId) (z : Value) (bytes : Nat) (ad : Addr) (c : Nat)
    (hj : L[j]? = some (quC enc a cap e size l)) (ht : P.underlying t = some (.slice e))
    (hinfo : (P.info? e).map (fun i => (i.zero, i.size, i.bytes)) = some (some z, size, bytes)) (hzs : z.cells.size = size) (hsz : 0 < size) (hs : ∀ y, (enc y).length = size)
    (hnews : Cells w (some ad) (enc x)) (h1 : (enc x).all (·.oneCell') = true) (hb : (l.length + 1) * bytes ≤ 140737488355328 ∧ l.length < 140737488355328) :
    ∃ a' cap' w', (Builtin.append_ #[t, t] ty #[.slice a l.length cap, .slice (some ad) 1 c]).run P w = .ok (.slice a' (l ++ [x]).length cap') w' ∧ Sep w0 (L.set j (quC enc a' cap' e size (l ++ [x]))) w' := by
  obtain ⟨i, hi, hzz⟩ := Option.map_eq_some_iff.1 hinfo
  simp only [Prod.mk.injEq] at hzz
  obtain ⟨hz, hsize, hby⟩ := hzz
  have hh : (quC enc a cap e size l).holds w := S.nth j hj
  have hcells := quC_cells hh
  obtain ⟨g, off, cur, rfl, hg, h2, h3, h4, h5⟩ := hh
  have hn : ∀ q u, (enc x)[q]? = some u → w.cell? (ad.add q) = some u := fun q u hq => by
    obtain ⟨p, hp, hc⟩ := hnews q u hq
    cases hp; exact hc
  have hfl := flat_len hs l
  have hxl : (enc x).length = 1 * i.size := by rw [hs, hsize, Nat.one_mul]
  have hlen : (l ++ [x]).length = l.length + 1 := by simp
  have hfm : l.flatMap enc ++ enc x = (l ++ [x]).flatMap enc := by simp
  have hone : ∀ u ∈ enc x, u.oneCell' = true := by simpa using h1
  by_cases hroom : l.length + 1 ≤ cap
  · have hf := run_firstCells_some (P := P) w i.size 1 ad 1 c (enc x) hxl hn
    have hmul : (l.length + 1) * size ≤ cap * size := Nat.mul_le_mul_right _ hroom
    rw [Nat.add_mul, Nat.one_mul] at hmul
    have hst := run_storeCells_at P g (off + l.length * i.size) e (enc x) 0 cur w hg (by rw [hsize, hs]; omega) hone
    simp only [Nat.add_zero] at hst
    refine ⟨some ⟨g, off, none⟩, cap, w.setRow g (cur.toList.take (off + l.length * i.size) ++ enc x ++ cur.toList.drop (off + l.length * i.size + (enc x).length)).toArray, ?_, ?_⟩
    · rw [hlen]
      simp [Builtin.append_, run_underlying ht, sizeOf, typeInfo, hi, Builtin.lenOf, hroom, hf, addO, hst]
    · refine S.set j hj (fun b' hb' => .inl hb') rfl rfl rfl (by simp) (fun b' _ hn' => heap_setRow_ne _ _ _ _ (fun e => hn' (by show some g = some b'; rw [e]))) ?_
      refine ⟨g, off, _, rfl, setRow_heap w g cur _ e (0, 0) hg, by rw [hlen]; exact hroom, h3, ?_, ?_⟩
      · simp only [List.size_toArray, List.length_append, List.length_take, List.length_drop, Array.length_toList, hs]
        rw [hsize]; omega
      · rw [← hfm, hlen, Nat.add_mul, Nat.one_mul]
        show ((cur.toList.take (off + l.length * i.size) ++ enc x ++ _).drop off).take _ = _
        have hle : off ≤ (cur.toList.take (off + l.length * size)).length := by rw [List.length_take, Array.length_toList]; exact Nat.le_min.2 ⟨Nat.le_add_right _ _, Nat.le_trans (Nat.le_add_right _ _) h4⟩
        rw [hsize, List.append_assoc, List.drop_append_of_le_length hle, List.drop_take, Nat.add_sub_cancel_left, h5, ← List.append_assoc]
        rw [List.take_append_of_le_length (by rw [List.length_append, hfl, hs]; exact Nat.le_refl _), List.take_of_length_le (by rw [List.length_append, hfl, hs]; exact Nat.le_refl _)]
  · have holds : ∀ q u, (l.flatMap enc)[q]? = some u → w.cell? ((⟨g, off, none⟩ : Addr).add q) = some u := fun q u hq => by
      obtain ⟨p, hp, hc⟩ := hcells q u hq
      cases hp; exact hc
    have hr2 := run_append_grow (P := P) w t ty e i z ht hi hz ⟨g, off, none⟩ l.length cap (l.flatMap enc) (by rw [hsize]; exact hfl) holds ad 1 c (enc x) hxl hn (by omega) (by omega) (growslice_fits (by omega) (by rw [hby]; exact hb.1))
    refine ⟨some ⟨w.heap.size, 0, none⟩, grownCap w (l.length + 1) cap e, _, by rw [hlen]; exact hr2, ?_⟩
    · have hge := grownCap_ge w (l.length + 1) cap e
      have hcm : grownCap w (l.length + 1) cap e ≤ maxLen := grownCap_le_maxLen w (l.length + 1) cap e (by simp only [maxLen]; omega)
      refine S.set j hj (fun b' hb' => .inr ?_) rfl rfl rfl (by simp) (fun b' hb1 _ => heap_alloc_old w.drew _ hb1) ?_
      · have : w.heap.size = b' := Option.some.inj hb'
        subst this
        exact ⟨Nat.le_refl _, by simp⟩
      · refine ⟨w.heap.size, 0, _, rfl, heap_alloc_new w.drew _, by rw [hlen]; exact hge, hcm, ?_, ?_⟩
        · simp only [Array.size_append, List.size_toArray, size_zeroCells, hzs, hfl, hs]
          rw [Nat.zero_add]
          have : grownCap w (l.length + 1) cap e * size = (l.length + 1) * size + (grownCap w (l.length + 1) cap e - (l.length + 1)) * size := by rw [← Nat.add_mul]; congr 1; omega
          have hm2 : (l.length + 1) * size = l.length * size + size := by rw [Nat.add_mul, Nat.one_mul]
          omega
        · rw [← hfm, hlen, List.drop_zero]
          simp only [Array.toList_append, List.toList_toArray]
          rw [List.take_append_of_le_length (by rw [List.length_append, hfl, hs, Nat.add_mul]; omega), List.take_of_length_le (by rw [List.length_append, hfl, hs, Nat.add_mul]; omega)]

theorem J.appendQ {α : Type} (enc : α → List Value) {w0 w : World} {L : List Claim} (S : Sep w0 L w) (j : Nat) {a : Option Addr} {cap : Nat} {e : TypeId} {size : Nat} (l : List α) (x : α) {K : List Item} {env : Env} (d : Nat) (t : TypeId) (z : Value) (bytes : Nat) (ad : Addr) (c : Nat)
    (hj : L[j]? = some (quC enc a cap e size l)) (h : appAt N K env = some (some d, t, .slice a l.length cap, .slice (some ad) 1 c)) (ht : P.underlying t = some (.slice e))
    (hinfo : (P.info? e).map (fun i => (i.zero, i.size, i.bytes)) = some (some z, size, bytes)) (hzs : z.cells.size = size) (hsz : 0 < size) (hs : ∀ y, (enc y).length = size)
    (hnews : Cells w (some ad) (enc x)) (h1 : (enc x).all (·.oneCell') = true) (hb : (l.length + 1) * bytes ≤ 140737488355328 ∧ l.length < 140737488355328)
    (k : ∀ a' cap' w', Sep w0 (L.set j (quC enc a' cap' e size (l ++ [x]))) w' → J P f N R (popK K) ((d, .slice a' (l ++ [x]).length cap') :: env) w') : J P f N R K env w := by
  unfold appAt at h
  split at h
  · rename_i o ho
    split at h
    · rename_i args argTypes hop
      split at h
      · rename_i xo yo t1 t2 hargs hts
        split at h
        · rename_i htt
          subst htt
          simp only [Option.some.injEq, Prod.mk.injEq] at h
          obtain ⟨hd, rfl, hx, hy⟩ := h
          obtain ⟨a', cap', w', hr, hS⟩ := run_append_qu (P := P) enc S j l x t1 o.type z bytes ad c hj ht hinfo hzs hsz hs hnews h1 hb
          refine J.ok ⟨_, ho, hd, .inl ?_⟩ (k a' cap' w' hS)
          have ea : args = #[xo, yo] := by rw [← hargs]
          have et : argTypes = #[t1, t1] := by rw [← hts]
          subst ea et
          unfold execOp
          simp [hop, resolve, invoke, builtin, hx, hy, hr, Result.andThen]
        · cases h
      · cases h
    · cases h
  · cases h
end Go.Eng

