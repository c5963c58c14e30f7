/- The proof engine, seventh part: shifts by what is not a literal, a byte of a text. Conditions: none; it is generic in the program. -/
import Derived.Test.YtaoolgcddapegaaGreatDoorZsEng3
namespace Go.Eng
set_option linter.unusedSimpArgs false
set_option linter.unusedVariables false
open Go.RowKit
variable {P : Program} {f : FuncId} {N : Nat} {R : Value → World → Prop}

/-- a shift at hand: where it writes, which, its kind and operands -/
def shAt (N : Nat) (K : List Item) (env : Env) : Option (Option Nat × BinOp × IntKind × Int × Int) :=
  match opAt N K env with
  | some o => match o.op with
    | .binOp op _ x y _ => match ev env x, ev env y with
      | .int k a, .int _ b => some (o.dst, op, k, a, b)
      | _, _ => none
    | _ => none
  | none => none

theorem OK.shl {K : List Item} {env : Env} {w : World} (d : Nat) (kk : IntKind) (x y r : Int) (h : shAt N K env = some (some d, .shl, kk, x, y)) (hy : 0 ≤ y) (hr : kk.wrap (x * 2 ^ min y.toNat kk.bits) = r) :
    OK P N K env w (some d) (.int kk r) w := by
  subst hr
  unfold shAt at h
  split at h
  · rename_i o ho
    split at h
    · rename_i op t xo yo t' hop
      split at h
      · rename_i k1 a k2 b hx hy'
        simp only [Option.some.injEq, Prod.mk.injEq] at h
        obtain ⟨hd, rfl, rfl, rfl, rfl⟩ := h
        refine ⟨o, ho, hd, .inl ?_⟩
        unfold execOp
        simp [hop, hx, hy', eqGuard, binOp, Op.shift, Int.not_lt.2 hy]
      · cases h
    · cases h
  · cases h

theorem OK.shr {K : List Item} {env : Env} {w : World} (d : Nat) (kk : IntKind) (x y r : Int) (h : shAt N K env = some (some d, .shr, kk, x, y)) (hy : 0 ≤ y) (hr : x.fdiv (2 ^ min y.toNat kk.bits) = r) :
    OK P N K env w (some d) (.int kk r) w := by
  subst hr
  unfold shAt at h
  split at h
  · rename_i o ho
    split at h
    · rename_i op t xo yo t' hop
      split at h
      · rename_i k1 a k2 b hx hy'
        simp only [Option.some.injEq, Prod.mk.injEq] at h
        obtain ⟨hd, rfl, rfl, rfl, rfl⟩ := h
        refine ⟨o, ho, hd, .inl ?_⟩
        unfold execOp
        simp [hop, hx, hy', eqGuard, binOp, Op.shift, Int.not_lt.2 hy]
      · cases h
    · cases h
  · cases h

theorem and_mask_u64 (n : Nat) (x : Int) (m : Int) (hm : m = 2 ^ n - 1) (hn : n < 64) :
    IntKind.wrap .u64 ((BitVec.ofInt 64 x &&& BitVec.ofInt 64 m).toNat : Int) = x % (2 ^ n : Int) := by
  have hp : (0 : Int) < 2 ^ n := Int.pow_pos (by omega)
  have hle : (2 : Int) ^ n ≤ 2 ^ 63 := by exact_mod_cast Nat.pow_le_pow_right (by omega) (show n ≤ 63 by omega)
  have hm1 : (BitVec.ofInt 64 m).toNat = 2 ^ n - 1 := by
    have h1 : ((BitVec.ofInt 64 m).toNat : Int) = m := by rw [bv_toNat_ofInt, Int.emod_eq_of_lt (by omega) (by omega)]
    have h2 : ((2 ^ n - 1 : Nat) : Int) = m := by
      have := Nat.one_le_two_pow (n := n)
      rw [hm]; push_cast [this]; rfl
    omega
  have h3 : ((BitVec.ofInt 64 x &&& BitVec.ofInt 64 m).toNat : Int) = x % (2 ^ n : Int) := by
    rw [BitVec.toNat_and, hm1, Nat.and_two_pow_sub_one_eq_mod]
    push_cast
    rw [bv_toNat_ofInt]
    refine Int.emod_emod_of_dvd _ ?_
    exact_mod_cast Nat.pow_dvd_pow 2 (show n ≤ 64 by omega)
  rw [h3]
  have h4 := Int.emod_nonneg x (show (2 : Int) ^ n ≠ 0 by omega)
  have h5 := Int.emod_lt_of_pos x hp
  exact IntWalk.u64_in _ (by omega)
/-- the byte at a place of a text -/
def byteAt (s : ByteArray) (i : Nat) : Int := ((s.data.toList.getD i 0).toNat : Int)
theorem byteAt_bounds (s : ByteArray) (i : Nat) : 0 ≤ byteAt s i ∧ byteAt s i ≤ 255 := by
  unfold byteAt; have := (s.data.toList.getD i 0).toNat_lt; omega

/-- a byte of a text at hand: where it is written, the type, the text, the index -/
def sixAt (N : Nat) (K : List Item) (env : Env) : Option (Option Nat × TypeId × ByteArray × Int) :=
  match opAt N K env with
  | some o => match o.op with
    | .index t x y => match ev env x, ev env y with
      | .string s, .int _ i => some (o.dst, t, s, i)
      | _, _ => none
    | _ => none
  | none => none

def isStr (P : Program) (t : TypeId) : Bool := match P.underlying t with
  | some .string => true
  | _ => false

theorem OK.byte {K : List Item} {env : Env} {w : World} (d : Nat) (t : TypeId) (s : ByteArray) (i r : Int) (h : sixAt N K env = some (some d, t, s, i)) (ht : isStr P t = true) (h0 : 0 ≤ i) (h1 : i < (s.size : Int)) (hr : byteAt s i.toNat = r) :
    OK P N K env w (some d) (.int .u8 r) w := by
  subst hr
  unfold sixAt at h
  split at h
  · rename_i o ho
    split at h
    · rename_i t' x y hop
      split at h
      · rename_i s' k i' hx hy
        simp only [Option.some.injEq, Prod.mk.injEq] at h
        obtain ⟨hd, rfl, rfl, rfl⟩ := h
        unfold isStr at ht
        split at ht
        · rename_i hu
          refine ⟨o, ho, hd, .inl ?_⟩
          unfold execOp
          have hlt : i'.toNat < s'.size := by omega
          have hb : s'[i'.toNat]? = some (s'.data.toList.getD i'.toNat 0) := by
            rw [getElem?_pos s' i'.toNat hlt]
            have h2 : i'.toNat < s'.data.size := hlt
            have h3 : s'.data.toList.getD i'.toNat 0 = s'.data[i'.toNat]'h2 := by
              rw [List.getD_eq_getElem?_getD, List.getElem?_eq_getElem (by simpa using h2)]
              simp
            exact congrArg some h3.symm
          simp only [hop, hx, hy, Instr.index, asIntOf, Sem.run_bind, Sem.run_pure, Result.andThen_ok, run_underlying hu w, h0, if_true, hb, byteAt]
        · cases ht
      · cases h
    · cases h
  · cases h

/-- two texts joined, at hand: where it writes, the texts -/
def catAt (N : Nat) (K : List Item) (env : Env) : Option (Option Nat × ByteArray × ByteArray) :=
  match opAt N K env with
  | some o => match o.op with
    | .binOp .add _ x y _ => match ev env x, ev env y with
      | .string s, .string t => some (o.dst, s, t)
      | _, _ => none
    | _ => none
  | none => none

theorem OK.cat {K : List Item} {env : Env} {w : World} (d : Nat) (s t r : ByteArray) (h : catAt N K env = some (some d, s, t)) (hs : s.size + t.size ≤ 9223372036854775807) (hr : s ++ t = r) :
    OK P N K env w (some d) (.string r) w := by
  subst hr
  unfold catAt at h
  split at h
  · rename_i o ho
    split at h
    · rename_i ty x y t' hop
      split at h
      · rename_i s' t2 hx hy
        simp only [Option.some.injEq, Prod.mk.injEq] at h
        obtain ⟨hd, rfl, rfl⟩ := h
        refine ⟨o, ho, hd, .inl ?_⟩
        unfold execOp
        have hmax : IntKind.i64.max = 9223372036854775807 := by decide
        simp [hop, hx, hy, eqGuard, binOp, Op.stringOp, hmax]
        omega
      · cases h
    · cases h
  · cases h

/-- a slice that reads as a list, each element in s cells -/
structure Recs {α : Type} (g : α → List Value) (s : Nat) (w : World) (a : Option Addr) (len : Nat) (l : List α) : Prop where
  len_eq : l.length = len
  size : ∀ x, (g x).length = s
  pos : 0 < s
  cells : Cells w a (l.flatMap g)

theorem flatMap_at {α : Type} {g : α → List Value} {s : Nat} (hs : ∀ x, (g x).length = s) (d : α) : ∀ (l : List α) (j i : Nat) (v : Value), j < l.length → (g (l.getD j d))[i]? = some v → (l.flatMap g)[j * s + i]? = some v := by
  intro l
  induction l with
  | nil => intro j i v hj; simp at hj
  | cons x l ih =>
    intro j i v hj h
    have hi : i < s := by have := (List.getElem?_eq_some_iff.1 h).1; rw [hs] at this; exact this
    rw [List.flatMap_cons]
    cases j with
    | zero =>
      rw [List.getElem?_append_left (by rw [hs]; omega)]
      simpa using h
    | succ j =>
      rw [List.getElem?_append_right (by rw [hs, Nat.add_mul]; omega), hs, show (j + 1) * s + i - s = j * s + i by rw [Nat.add_mul]; omega]
      exact ih j i v (by simpa using hj) (by simpa using h)

theorem Recs.at {α : Type} {g : α → List Value} {s : Nat} {w : World} {a : Option Addr} {len : Nat} {l : List α} (h : Recs g s w a len l) (d : α) (j : Nat) (hj : j < len) :
    ∃ p, a = some p ∧ ∀ (i : Nat) (v : Value), (g (l.getD j d))[i]? = some v → w.cell? ((p.add (j * s)).add i) = some v := by
  have key : ∀ (i : Nat) (v : Value), (g (l.getD j d))[i]? = some v → ∃ p, a = some p ∧ w.cell? ((p.add (j * s)).add i) = some v := fun i v hv => by
    obtain ⟨p, hp, hc⟩ := h.cells _ v (flatMap_at h.size d l j i v (by rw [h.len_eq]; exact hj) hv)
    exact ⟨p, hp, by rw [addr_add_add]; exact hc⟩
  obtain ⟨p, hp, _⟩ := key 0 ((g (l.getD j d))[0]'(by rw [h.size]; exact h.pos)) (by simp [h.size, h.pos])
  refine ⟨p, hp, fun i v hv => ?_⟩
  obtain ⟨p', hp', hc⟩ := key i v hv
  rw [hp] at hp'; cases hp'
  exact hc

theorem Recs.sep {α : Type} {g : α → List Value} {s : Nat} {w0 w : World} {L : List Claim} {a : Option Addr} {len : Nat} {l : List α} (h : Recs g s w0 a len l) (S : Sep w0 L w) : Recs g s w a len l := ⟨h.len_eq, h.size, h.pos, h.cells.sep S⟩
end Go.Eng

namespace Go.Eng
set_option linter.unusedSimpArgs false
set_option linter.unusedVariables false
open Go.RowKit
variable {P : Program} {f : FuncId} {N : Nat} {R : Value → World → Prop}

/-- an element in one cell -/
abbrev enc1 {α : Type} (g : α → Value) (x : α) : List Value := [g x]

theorem flatMap_enc1 {α : Type} (g : α → Value) (l : List α) : l.flatMap (enc1 g) = l.map g := by
  induction l with
  | nil => rfl
  | cons x l ih => simp [List.flatMap_cons, ih]

theorem rowOf_cells {α : Type} {enc : α → List Value} {w : World} {a : Option Addr} {cap : Nat} {e : TypeId} {size : Nat} {l : List α} (h : (rowOf enc a cap e size l).holds w) : Cells w a (l.flatMap enc) ∧ (a = none → l = []) ∧ l.length ≤ cap := by
  obtain ⟨a', cap', he, hc, h1, _⟩ := row_cells h
  cases he
  refine ⟨hc, fun hn => ?_, h1⟩
  subst hn
  have h' : w.ownsRow 0 e size (.slice none l.length cap) l.length (l.flatMap enc) := h
  rcases h'.2 with ⟨h2, _⟩ | ⟨g, c, cur, h2, _⟩
  · simp only [Value.slice.injEq] at h2; exact List.eq_nil_of_length_eq_zero h2.2.1
  · simp at h2

theorem rowOf_len {α : Type} {enc : α → List Value} {w : World} {a : Option Addr} {cap : Nat} {e : TypeId} {size : Nat} {l : List α} (h : (rowOf enc a cap e size l).holds w) : l.length ≤ 9223372036854775807 := by
  obtain ⟨a', cap', he, hc, h1, h2, _⟩ := row_cells h
  simp only [maxLen] at h2; omega

theorem row1_ones {α : Type} {g : α → Value} {w : World} {a : Option Addr} {cap : Nat} {e : TypeId} {l : List α} (h : (rowOf (enc1 g) a cap e 1 l).holds w) (n : Nat) (hn : l.length = n) : Ones g w a n l :=
  ⟨hn, by rw [← flatMap_enc1]; exact (rowOf_cells h).1⟩

theorem row1_addr {α : Type} {g : α → Value} {w : World} {a : Option Addr} {cap : Nat} {e : TypeId} {l : List α} (h : (rowOf (enc1 g) a cap e 1 l).holds w) (hl : 0 < l.length) : ∃ p, a = some p := by
  cases a with
  | some p => exact ⟨p, rfl⟩
  | none => have := (rowOf_cells h).2.1 rfl; subst this; simp at hl

theorem row1_cell {α : Type} {g : α → Value} {w0 w : World} {L : List Claim} (S : Sep w0 L w) (j : Nat) {a : Option Addr} {cap : Nat} {e : TypeId} {l : List α} (hj : L[j]? = some (rowOf (enc1 g) a cap e 1 l)) {p : Addr} (hp : a = some p) (d : α) (i : Nat) (hi : i < l.length) :
    w.cell? (p.add i) = some (g (l.getD i d)) := by
  obtain ⟨p', hp', hc⟩ := (row1_ones (S.nth j hj) _ rfl).at d i hi
  rw [hp] at hp'; cases hp'
  exact hc

/-- a store of one element into a slice of the call's own -/
theorem Sep.setRow1 {α : Type} (g : α → Value) (hg1 : ∀ x, (g x).cells = #[g x] ∧ (g x).oneCell' = true) {w0 w : World} {L : List Claim} (S : Sep w0 L w) (j : Nat) {a : Option Addr} {cap : Nat} {e : TypeId} {l : List α} (hj : L[j]? = some (rowOf (enc1 g) a cap e 1 l)) (i : Nat) (hi : i < l.length) (x : α) {t : TypeId} {p : Addr} (hp : a = some p)
    (ht : (P.info? t).map (·.size) = some 1) : ∃ w', (storeVar t (p.add i) (g x)).run P w = .ok () w' ∧ Sep w0 (L.set j (rowOf (enc1 g) a cap e 1 (l.set i x))) w' := by
  have hown : w.ownsRow 0 e 1 (.slice a l.length cap) l.length (l.flatMap (enc1 g)) := S.nth j hj
  rcases hown.2 with ⟨h0, h1⟩ | ⟨gb, cap', cur, he, _, hg, hnc, hcm, hcs, htake⟩
  · omega
  · simp only [Value.slice.injEq] at he
    obtain ⟨rfl, _, rfl⟩ := he
    cases hp
    have hadd : (⟨gb, 0, none⟩ : Addr).add i = ⟨gb, i, none⟩ := by unfold Addr.add; split <;> simp_all
    have hsz : cur.size = cap := by rw [hcs]; omega
    have hst := run_storeVar (P := P) (w := w) (t := t) (T := e) (b := gb) (off := i) (cs := cur.toList) (cs' := cur.toList.take i ++ [g x] ++ cur.toList.drop (i + 1)) (v := g x) (by simpa using hg) (by simpa [(hg1 x).1] using ht) (by
      have hle : Nat.ble (i + 1) cap = true := (by rw [Nat.ble_eq]; omega)
      simp [stV, (hg1 x).1, (hg1 x).2, hsz, hle])
    rw [hadd]
    refine ⟨_, hst, ?_⟩
    have hnew : (cur.toList.take i ++ [g x] ++ cur.toList.drop (i + 1)) = cur.toList.set i (g x) := by
      rw [List.set_eq_take_append_cons_drop, if_pos (by simp; omega)]
      simp
    refine S.set j hj (fun b hb => .inl hb) rfl rfl rfl (by simp) (fun b _ hb => heap_setRow_ne _ _ _ _ fun e => hb (by rw [e]; rfl)) ?_
    show (w.setRow gb _).ownsRow 0 e 1 (.slice (some ⟨gb, 0, none⟩) (l.set i x).length cap) (l.set i x).length ((l.set i x).flatMap (enc1 g))
    refine ⟨by simp [flatMap_enc1], .inr ⟨gb, cap, _, by simp, Nat.zero_le _, setRow_heap w gb cur _ e (0, 0) hg, by simpa using hnc, hcm, ?_, ?_⟩⟩
    · rw [hnew]; simp [hsz]
    · rw [hnew]
      simp only [flatMap_enc1, List.length_set, Nat.mul_one] at htake ⊢
      rw [List.take_set, htake, List.map_set]

theorem int_one (k : IntKind) (x : Int) : (Value.int k x).cells = #[.int k x] ∧ (Value.int k x).oneCell' = true := ⟨rfl, rfl⟩
theorem bool_one (x : Bool) : (Value.bool x).cells = #[.bool x] ∧ (Value.bool x).oneCell' = true := ⟨rfl, rfl⟩
/-- a slice literal as a list of elements -/
theorem box_row {α : Type} (enc : α → List Value) {w0 w : World} {L : List Claim} (S : Sep w0 L w) (i : Nat) {b : Nat} {cs : List Value} {e : TypeId} (l : List α) (size : Nat) (hi : L[i]? = some (box b cs e)) (hc : l.flatMap enc = cs) (hs : cs.length = l.length * size) (hm : l.length ≤ maxLen) (hb : b < w.heap.size ∨ True) :
    Sep w0 (L.set i (rowOf enc (some ⟨b, 0, none⟩) l.length e size l)) w := by
  have h : w.heap[b]? = some (.cells cs.toArray e (0, 0)) := S.nth i hi
  refine S.set i hi (fun b' hb' => .inl ?_) rfl rfl rfl (Nat.le_refl _) (fun _ _ _ => rfl) ?_
  · simpa [rowOf, row, Value.ownBlock, eq_comm, box] using hb'
  · show w.ownsRow 0 e size (.slice (some ⟨b, 0, none⟩) l.length l.length) l.length (l.flatMap enc)
    refine ⟨by rw [hc, hs], .inr ⟨b, l.length, cs.toArray, rfl, Nat.zero_le _, h, Nat.le_refl _, hm, by simp [hs], ?_⟩⟩
    rw [hc, List.take_of_length_le (by simp [hs])]

/-- what an append of a nil slice gives -/
theorem run_append_none (w : World) (t ty e : TypeId) (i : TypeInfo) (ht : P.underlying t = some (.slice e)) (hi : P.info? e = some i) (base : Option Addr) (n cap : Nat) (hb : base = none → n * i.size = 0) (hn : n ≤ cap) (c : Nat) :
    (Builtin.append_ #[t, t] ty #[.slice base n cap, .slice none 0 c]).run P w = .ok (.slice base n cap) w := by
  cases base with
  | none => simp [Builtin.append_, run_underlying ht, sizeOf, typeInfo, hi, Builtin.lenOf, Builtin.firstCells, hn]
  | some a => simp [Builtin.append_, run_underlying ht, sizeOf, typeInfo, hi, Builtin.lenOf, Builtin.firstCells, hn, storeCells]

theorem set_self {α : Type} {L : List α} {j : Nat} {c : α} (h : L[j]? = some c) : L.set j c = L := by
  apply List.ext_getElem?
  intro i
  rw [List.getElem?_set]
  split
  · rename_i e; subst e
    rw [h, if_pos (List.getElem?_eq_some_iff.1 h).1]
  · rfl
theorem OK.appendL {α : Type} (enc : α → List Value) {w0 w : World} {L : List Claim} (S : Sep w0 L w) (j : Nat) {a : Option Addr} {cap : Nat} {e : TypeId} {size : Nat} (l ys : List α) {K : List Item} {env : Env} (d : Nat) (t : TypeId) (z : Value) (bytes : Nat) (x : Option Addr) (c : Nat)
    (hj : L[j]? = some (rowOf enc a cap e size l)) (h : appAt N K env = some (some d, t, .slice a l.length cap, .slice x ys.length c)) (ht : P.underlying t = some (.slice e))
    (hinfo : (P.info? e).map (fun i => (i.zero, i.size, i.bytes)) = some (some z, size, bytes)) (hzs : z.cells.size = size) (hsz : 0 < size)
    (hnews : Cells w x (ys.flatMap enc)) (hx : x = none → ys = []) (hl : ∀ y, (enc y).length = size) (h1 : ∀ y, (enc y).all (·.oneCell') = true) (hb : (l.length + ys.length) * bytes ≤ 140737488355328 ∧ l.length + ys.length ≤ 140737488355328)
    : ∃ a' cap' w', OK P N K env w (some d) (.slice a' (l ++ ys).length cap') w' ∧ Sep w0 (L.set j (rowOf enc a' cap' e size (l ++ ys))) w' := by
  obtain ⟨i, hi, hzz⟩ := Option.map_eq_some_iff.1 hinfo
  simp only [Prod.mk.injEq] at hzz
  obtain ⟨hz, hsize, hby⟩ := hzz
  have hown : w.ownsRow 0 e size (.slice a l.length cap) l.length (l.flatMap enc) := S.nth j hj
  have hlen : ∀ zs : List α, (zs.flatMap enc).length = zs.length * size := by
    intro zs
    induction zs with
    | nil => simp
    | cons y zs ih => simp [List.flatMap_cons, ih, hl, Nat.add_mul]; omega
  have hall : ∀ u ∈ ys.flatMap enc, u.oneCell' = true := by
    intro u hu
    obtain ⟨y, _, hy⟩ := List.mem_flatMap.1 hu
    have := h1 y
    rw [List.all_eq_true] at this
    exact this u hy
  unfold appAt at h
  split at h
  · rename_i o ho
    split at h
    · rename_i args argTypes hop
      split at h
      · rename_i xo yo t1 t2 hargs hts
        split at h
        · rename_i htt
          subst htt
          simp only [Option.some.injEq, Prod.mk.injEq] at h
          obtain ⟨hd, rfl, hx', hy⟩ := h
          have ea : args = #[xo, yo] := by rw [← hargs]
          have et : argTypes = #[t1, t1] := by rw [← hts]
          subst ea et
          cases x with
          | none =>
            have hys := hx rfl
            subst hys
            have hcl := rowOf_cells (S.nth j hj)
            have hr := run_append_none (P := P) w t1 o.type e i ht hi a l.length cap (fun hn => by have := hcl.2.1 hn; subst this; simp) hcl.2.2 c
            have hS : Sep w0 (L.set j (rowOf enc a cap e size (l ++ []))) w := by
              have : L.set j (rowOf enc a cap e size (l ++ [])) = L := by
                rw [List.append_nil]
                exact set_self hj
              rw [this]; exact S
            refine ⟨a, cap, w, ⟨_, ho, hd, .inl ?_⟩, hS⟩
            unfold execOp
            simp only [List.length_nil] at hy
            simp [hop, resolve, invoke, builtin, hx', hy, hr, Result.andThen]
          | some ad =>
            have hn : ∀ q u, (ys.flatMap enc)[q]? = some u → w.cell? (ad.add q) = some u := fun q u hq => by
              obtain ⟨p, hp, hc⟩ := hnews q u hq
              cases hp; exact hc
            obtain ⟨v', w', hr, ho', hg, hblk⟩ := run_append_row (P := P) w t1 o.type e i z size bytes ht hi hz hsize hby hzs hsz _ _ _ hown ad ys.length c (ys.flatMap enc) (hlen ys) hn hall (by simp only [maxLen]; omega) hb.1
            have hlen : (l ++ ys).length = l.length + ys.length := by simp
            have hfm : l.flatMap enc ++ ys.flatMap enc = (l ++ ys).flatMap enc := by simp
            rw [hfm, ← hlen] at ho'
            obtain ⟨a', cap', rfl, _, _, _, _⟩ := row_cells (v := v') (e := e) (size := size) (n := (l ++ ys).length) (xs := (l ++ ys).flatMap enc) (w := w') ho'
            have hS : Sep w0 (L.set j (rowOf enc a' cap' e size (l ++ ys))) w' := by
              refine S.set j hj (fun b hb' => ?_) hg.os hg.tape hg.output hg.size (fun b hb1 hb2 => hg.block b hb1 fun e => hb2 e.symm) ho'
              rcases hblk b hb' with h2 | h2
              · exact .inl h2
              · exact .inr ⟨h2, (ho'.lt b hb').2⟩
            refine ⟨a', cap', w', ⟨_, ho, hd, .inl ?_⟩, hS⟩
            unfold execOp
            simp [hop, resolve, invoke, builtin, hx', hy, hr, Result.andThen]
        · cases h
      · cases h
    · cases h
  · cases h

theorem front_perm {α : Type} {c : α} : ∀ (L : List α) (j : Nat), L[j]? = some c → (c :: L.eraseIdx j).Perm L := by
  intro L
  induction L with
  | nil => intro j h; simp at h
  | cons x L ih =>
    intro j h
    cases j with
    | zero => simp at h; subst h; simp
    | succ j =>
      rw [List.eraseIdx_cons_succ]
      exact (List.Perm.swap x c _).trans ((ih j (by simpa using h)).cons x)
/-- the claim at j comes first -/
theorem Sep.front {w0 w : World} {L : List Claim} (S : Sep w0 L w) (j : Nat) {c : Claim} (hj : L[j]? = some c) : Sep w0 (c :: L.eraseIdx j) w := by
  have hlt := (List.getElem?_eq_some_iff.1 hj).1
  have hc := (List.getElem?_eq_some_iff.1 hj).2
  have hp : (c :: L.eraseIdx j).Perm L := by
    clear hlt hc S
    exact front_perm L j hj
  refine ⟨S.below, fun d hd => S.all d (hp.mem_iff.1 hd), fun d hd => S.fresh d (hp.mem_iff.1 hd), ?_⟩
  exact hp.symm.pairwise S.apart fun h b hb hb' => h b hb' hb

theorem Sep.pick {w0 w : World} {L : List Claim} (S : Sep w0 L w) (j : Nat) {c : Claim} (hj : L[j]? = some c) : Sep w0 [c] w :=
  (S.front j hj).sub (List.Sublist.cons_cons _ (List.nil_sublist _))

theorem box_keep {w w' : World} {b : Nat} {cs : List Value} {T : TypeId} (h : (box b cs T).holds w) (S : Sep w [] w') : (box b cs T).holds w' := by
  have h' : w.heap[b]? = some (.cells cs.toArray T (0, 0)) := h
  exact (box b cs T).stable w w' (fun b' hb' => S.below.block b' (by have e : b' = b := hb'; rw [e]; exact (Array.getElem?_eq_some_iff.1 h').1)) h

theorem OK.ldRo {w0 w : World} {L : List Claim} (S : Sep w0 L w) {b : Nat} {cs : List Value} {T : TypeId} (hb : (box b cs T).holds w0) {K : List Item} {env : Env} (d : Nat) (t : TypeId) (off : Nat) (v : Value)
    (h : ldAt N K env = some (some d, t, ⟨b, off, none⟩)) (hv : ldV P t off cs = some v) : OK P N K env w (some d) v w :=
  OK.load v h (ldV_run (box_keep hb S.nil) hv)

theorem getD_Q {α : Type} {l : List α} {Q : α → Prop} (h : ∀ y ∈ l, Q y) {n : Nat} (d : α) (hn : n < l.length) : Q (l.getD n d) := by
  have : l.getD n d = l[n] := by simp [List.getD, hn]
  rw [this]; exact h _ (List.getElem_mem hn)

/-- the place of the first element that is wanted, or -1 -/
def indexF {α : Type} (q : α → Bool) (l : List α) : Int := match l.findIdx? q with | some i => i | none => -1
theorem indexF_some {α : Type} {q : α → Bool} {l : List α} (d : α) (i : Nat) (hi : i < l.length) (h1 : ∀ j, j < i → q (l.getD j d) = false) (h2 : q (l.getD i d) = true) : indexF q l = i := by
  unfold indexF
  have : l.findIdx? q = some i := by
    rw [List.findIdx?_eq_some_iff_getElem]
    refine ⟨hi, by simpa [List.getD, hi] using h2, fun j hj => ?_⟩
    have := h1 j hj
    simp [List.getD, show j < l.length by omega] at this
    simp [this]
  rw [this]
theorem indexF_none {α : Type} {q : α → Bool} {l : List α} (d : α) (h1 : ∀ j, j < l.length → q (l.getD j d) = false) : indexF q l = -1 := by
  unfold indexF
  have : l.findIdx? q = none := by
    rw [List.findIdx?_eq_none_iff]
    intro x hx
    obtain ⟨j, hj, rfl⟩ := List.mem_iff_getElem.1 hx
    have := h1 j hj
    simpa [List.getD, hj] using this
  rw [this]
theorem indexF_nonneg {α : Type} {q : α → Bool} {l : List α} : decide (indexF q l ≥ 0) = l.any q := by
  unfold indexF
  cases h : l.findIdx? q with
  | none =>
    rw [List.findIdx?_eq_none_iff] at h
    have : l.any q = false := by rw [List.any_eq_false]; intro x hx; simp [h x hx]
    rw [this]; decide
  | some i =>
    rw [List.findIdx?_eq_some_iff_getElem] at h
    obtain ⟨hi, h2, _⟩ := h
    have : l.any q = true := List.any_eq_true.2 ⟨_, List.getElem_mem hi, h2⟩
    rw [this]; simp
theorem indexF_at {α : Type} {q : α → Bool} {l : List α} (d : α) (h : 0 ≤ indexF q l) : indexF q l < (l.length : Int) ∧ q (l.getD (indexF q l).toNat d) = true ∧ ∀ j, j < (indexF q l).toNat → q (l.getD j d) = false := by
  unfold indexF at h ⊢
  cases hx : l.findIdx? q with
  | none => rw [hx] at h; exact absurd h (by decide)
  | some i =>
    rw [List.findIdx?_eq_some_iff_getElem] at hx
    obtain ⟨hi, h2, h3⟩ := hx
    refine ⟨by simpa using hi, by simpa [List.getD, hi] using h2, fun j hj => ?_⟩
    simp only [Int.toNat_natCast] at hj
    have := h3 j hj
    simpa [List.getD, show j < l.length by omega] using this
theorem indexF_bounds {α : Type} (q : α → Bool) (l : List α) : -1 ≤ indexF q l ∧ indexF q l < (l.length : Int) ∨ indexF q l = -1 := by
  by_cases h : 0 ≤ indexF q l
  · exact .inl ⟨by omega, by
      unfold indexF at h ⊢
      cases hx : l.findIdx? q with
      | none => rw [hx] at h; exact absurd h (by decide)
      | some i =>
        rw [List.findIdx?_eq_some_iff_getElem] at hx
        obtain ⟨hi, _⟩ := hx
        simpa using hi⟩
  · right
    unfold indexF at h ⊢
    cases hx : l.findIdx? q with
    | none => rfl
    | some i => rw [hx] at h; exact absurd (show (0 : Int) ≤ (i : Int) by omega) h

/-- a slice expression of a slice at hand: where it writes, its type, the slice, the bounds -/
def slAt (N : Nat) (K : List Item) (env : Env) : Option (Option Nat × TypeId × Value × Option Value × Option Value) :=
  match opAt N K env with
  | some o => match o.op with
    | .slice t x lo hi none => some (o.dst, t, ev env x, lo.map (ev env), hi.map (ev env))
    | _ => none
  | none => none

def subA (a : Option Addr) (cap l size : Nat) : Option Addr := if cap = l then a else a.map (·.add (l * size))

theorem subA_zero (a : Option Addr) (cap size : Nat) : subA a cap 0 size = a := by
  unfold subA
  split
  · rfl
  · cases a <;> simp [Addr.add]

theorem OK.slice {K : List Item} {env : Env} {w : World} (d : Nat) (t : TypeId) (size : Nat) (a : Option Addr) (len cap : Nat) (lo hi : Option Value) (l r : Nat) (h : slAt N K env = some (some d, t, .slice a len cap, lo, hi)) (hs : elemSize P t = some size)
    (hlo : (lo = none ∧ l = 0) ∨ ∃ k i, lo = some (.int k i) ∧ i = (l : Int)) (hhi : (hi = none ∧ r = len) ∨ ∃ k i, hi = some (.int k i) ∧ i = (r : Int)) (hlr : l ≤ r) (hrc : r ≤ cap) :
    OK P N K env w (some d) (.slice (subA a cap l size) (r - l) (cap - l)) w := by
  unfold slAt at h
  split at h
  · rename_i o ho
    split at h
    · rename_i t' x lo' hi' hop
      simp only [Option.some.injEq, Prod.mk.injEq] at h
      obtain ⟨hd, rfl, hx, rfl, rfl⟩ := h
      unfold elemSize at hs
      split at hs
      · rename_i e hu
        obtain ⟨info, hinfo, hsz⟩ := Option.map_eq_some_iff.1 hs
        refine ⟨o, ho, hd, .inl ?_⟩
        unfold execOp
        have key : (Instr.sliceBounds true len cap (lo'.map (ev env)) (hi'.map (ev env)) none).run P w = .ok (l, r, cap) w := by
          unfold Instr.sliceBounds
          rcases hlo with ⟨e1, rfl⟩ | ⟨k1, i1, e1, rfl⟩ <;> rcases hhi with ⟨e2, rfl⟩ | ⟨k2, i2, e2, rfl⟩
          · simp [e1, e2]
          · have h2 : (0 : Int) ≤ (r : Int) ∧ (r : Int) ≤ (cap : Int) := by omega
            simp [e1, e2, Instr.sliceBound, asIntOf, h2, hrc]
          · have h2 : (0 : Int) ≤ (l : Int) ∧ (l : Int) ≤ (r : Int) := by omega
            simp [e1, e2, Instr.sliceBound, asIntOf, h2, hlr]
          · have h2 : (0 : Int) ≤ (r : Int) ∧ (r : Int) ≤ (cap : Int) := by omega
            have h3 : (0 : Int) ≤ (l : Int) ∧ (l : Int) ≤ (r : Int) := by omega
            simp [e1, e2, Instr.sliceBound, asIntOf, h2, h3, hrc, hlr]
        have hsub : (if cap - l = 0 ∧ cap = l then a else a) = a := by split <;> rfl
        simp only [hop, hx, Instr.sliceAt, Instr.slice, Sem.run_bind, run_underlying hu w, Result.andThen_ok, Option.map_none, key, run_sizeOf hinfo w, Sem.run_pure, hsz, subA]
      · cases hs
    · cases h
  · cases h

theorem Ones.take {α : Type} {g : α → Value} {w : World} {a : Option Addr} {len : Nat} {l : List α} (h : Ones g w a len l) (n : Nat) (hn : n ≤ len) : Ones g w a n (l.take n) := by
  refine ⟨by rw [List.length_take, h.len_eq]; omega, fun j v hj => h.cells j v ?_⟩
  rw [List.map_take, List.getElem?_take] at hj
  split at hj
  · exact hj
  · cases hj

theorem Recs.take {α : Type} {g : α → List Value} {s : Nat} {w : World} {a : Option Addr} {len : Nat} {l : List α} (h : Recs g s w a len l) (n : Nat) (hn : n ≤ len) : Recs g s w a n (l.take n) := by
  refine ⟨by rw [List.length_take, h.len_eq]; omega, h.size, h.pos, fun j v hj => h.cells j v ?_⟩
  have hsplit : l.flatMap g = (l.take n).flatMap g ++ (l.drop n).flatMap g := by rw [← List.flatMap_append, List.take_append_drop]
  rw [hsplit, List.getElem?_append_left (List.getElem?_eq_some_iff.1 hj).1]
  exact hj

/-- an address by an index into an array behind a pointer -/
def pixAt (N : Nat) (K : List Item) (env : Env) : Option (Option Nat × TypeId × Addr × Int) :=
  match opAt N K env with
  | some o => match o.op with
    | .indexAddr t x y => match ev env x, ev env y with
      | .pointer (some a), .int _ i => some (o.dst, t, a, i)
      | _, _ => none
    | _ => none
  | none => none

/-- an array type: its length, the size of its elements -/
def arrOf (P : Program) (t : TypeId) : Option (Nat × Nat) :=
  match P.underlying t with
  | some (.array n e) => (P.info? e).map fun i => (n, i.size)
  | _ => none

theorem OK.indexP {K : List Item} {env : Env} {w : World} (d : Nat) (t : TypeId) (n s b : Nat) (off : Nat) (i : Nat) (ii : Int) (h : pixAt N K env = some (some d, t, ⟨b, off, none⟩, ii)) (hs : arrOf P t = some (n, s))
    (hi : ii = i) (hl : i < n) : OK P N K env w (some d) (.pointer (some ⟨b, off + i * s, none⟩)) w := by
  unfold pixAt at h
  split at h
  · rename_i o ho
    split at h
    · rename_i t' x y hop
      split at h
      · rename_i a kk i' hx hy
        simp only [Option.some.injEq, Prod.mk.injEq] at h
        obtain ⟨hd, rfl, rfl, rfl⟩ := h
        subst hi
        unfold arrOf at hs
        split at hs
        · rename_i m e hu
          obtain ⟨info, hinfo, hsz⟩ := Option.map_eq_some_iff.1 hs
          simp only [Prod.mk.injEq] at hsz
          obtain ⟨rfl, hsz⟩ := hsz
          refine ⟨o, ho, hd, .inl ?_⟩
          unfold execOp
          have h0 : (0 : Int) ≤ (i : Int) ∧ (i : Int) < (m : Int) := ⟨by omega, by omega⟩
          have hadd : (⟨b, off, none⟩ : Addr).add (i * s) = ⟨b, off + i * s, none⟩ := by unfold Addr.add; split <;> simp_all
          simp only [hop, hx, hy, Instr.indexAt, Instr.sureAddr, asIntOf, Sem.run_bind, Sem.run_pure, Result.andThen_ok, run_underlying hu w, h0, and_self, if_true, run_sizeOf hinfo w, Int.toNat_natCast, hsz, hadd]
        · cases hs
      · cases h
    · cases h
  · cases h

/-- a load of an element out of an array of the call's own -/
theorem OK.ldArr {α : Type} (g : α → Value) {w0 w : World} {L : List Claim} (S : Sep w0 L w) (j : Nat) {b : Nat} {l : List α} {T : TypeId} {K : List Item} {env : Env} (d : Nat) (t : TypeId) (i : Nat) (x : α)
    (h : ldAt N K env = some (some d, t, ⟨b, i, none⟩)) (ht : (P.underlying t).map aggB = some false) (hj : L[j]? = some (box b (l.map g) T)) (hi : i < l.length) : OK P N K env w (some d) (g (l.getD i x)) w := by
  refine OK.ldCell d t _ _ h ht ?_
  have hb : w.heap[b]? = some (.cells (l.map g).toArray T (0, 0)) := S.nth j hj
  simp [World.cell?, hb, List.getD, hi]

theorem cell_zero {w : World} {p : Addr} {v : Value} (h : w.cell? (p.add 0) = some v) : w.cell? p = some v := by
  have : p.add 0 = p := by simp [Addr.add]
  rwa [this] at h
end Go.Eng

