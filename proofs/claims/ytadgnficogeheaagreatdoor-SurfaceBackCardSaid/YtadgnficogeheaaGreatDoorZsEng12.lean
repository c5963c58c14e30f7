/- The proof engine, twelfth part: a text's lines (strings.Split), what comes before a separator (strings.Cut); a law's form with the world's shape kept. Conditions: none; it is generic in the program. -/
import Derived.Test.YtadgnficogeheaaGreatDoorZsEng11
import Derived.Lib.SplitLaws
import Derived.Lib.IndexBytes
import Derived.Lib.IndexMore
import Derived.HandedShaped
import Derived.Shelf.Vars
namespace Go.Eng
set_option linter.unusedSimpArgs false
set_option linter.unusedVariables false
open Go.RowKit
variable {P : Program} {f : FuncId} {N : Nat} {R : Value → World → Prop}

/-- a variable holds some number -/
def IntW (w : World) (g : Nat) (k : IntKind) : Prop := ∃ m, w.cell? ⟨g, 0, none⟩ = some (.int k m)
theorem IntW.sep {w w' : World} {L : List Claim} {g : Nat} {k : IntKind} (h : IntW w g k) (S : Sep w L w') : IntW w' g k := by
  obtain ⟨m, h1⟩ := h
  exact ⟨m, S.cell h1⟩

/-- the form of a row that lists variables: the contract is handed the world's shape, too -/
theorem handed_shaped {H : Type} {enc : TypeId × Value → H} {a : Assume} {C : Checked} {os : Os} {f : FuncId} {fn : Func} {s : ChangeSpec} {conds : List PathCond} {apart fresh handsOn again : Bool} {X : World → Array Value → Prop}
    (hX : ∀ (w w' : World) (args : Array Value), w.heap = w'.heap → X w args → X w' args) (own : ownKnob C.prog.godebug = none) (started : os.Started) (noInit : C.prog.inits.idxOf? f = none) (hfn : C.prog.funcs[f]? = some fn)
    (witness : ∃ (w : World) (tape : Tape) (i : Input), w.os = os ∧ (w.forCall tape i).Shaped C.prog ∧ i.vars = [] ∧ Input.okWide C.prog (w.forCall tape i) .any w.heap.size f i ∧
      ((s.pre enc C.prog fn conds apart (w.forCall tape i).memory i.args ∧ X (w.forCall tape i).memory i.args) ∧ sizedMet enc C.prog fn (OpenSpec.ofChange s) apart (w.forCall tape i).memory i.args) ∧ a.holds C.prog (lone (Frame.enter C.prog f i.args .normal) [] (w.forCall tape i)))
    (contract : ∀ (W : World) (base : Nat) (args : Array Value) (ds gs : List (DataW H)) (before : List MemPlace), (∀ (j : Nat) t v, fn.params[j]? = some t → args[j]? = some v → Value.okWide C.prog W .any base t v) →
      DataW.Whole enc C.prog fn.params.toList s.vars apart W args.toList ds gs before → X W args → W.ShapedOpen C.prog →
      Calls C.prog f args W fun e W' => ∃ v, e = .returned v ∧ s.post enc C.prog fn apart fresh handsOn again W args v W') :
    ReturnsInHanded a C os f .any (fun w args => (s.pre enc C.prog fn conds apart w args ∧ X w args) ∧ sizedMet enc C.prog fn (OpenSpec.ofChange s) apart w args) (s.post enc C.prog fn apart fresh handsOn again) := by
  refine returnsInHanded_of_calls own started noInit witness fun w tape i _ hsh _ hok hpre _ => ?_
  obtain ⟨_, _, _, fn', hfn', _, _, _, _, hval⟩ := hok
  obtain rfl : fn' = fn := Option.some.inj (hfn'.symm.trans hfn)
  obtain ⟨⟨⟨ds, gs, before, hw, _⟩, hx⟩, _⟩ := hpre
  refine (contract (w.forCall tape i) w.heap.size i.args ds gs before hval (DataW.Whole.of_heap (w' := w.forCall tape i) (by rfl) hw) (hX _ _ _ (by rfl) hx) hsh).mono fun e W' ⟨v, he, hp⟩ => ?_
  subst he
  exact ChangeSpec.post_blind hp

/-! ### a list of bytes, split at a byte -/

def splitOn (c : UInt8) : List UInt8 → List (List UInt8)
  | [] => [[]]
  | x :: r => if x = c then [] :: splitOn c r else match splitOn c r with
    | [] => [[x]]
    | h :: t => (x :: h) :: t

theorem splitOn_ne (c : UInt8) : ∀ l, splitOn c l ≠ []
  | [] => by simp [splitOn]
  | x :: r => by
    unfold splitOn
    split
    · simp
    · split <;> simp

theorem splitOn_miss {c : UInt8} : ∀ {l : List UInt8}, c ∉ l → splitOn c l = [l]
  | [], _ => rfl
  | x :: r, h => by
    unfold splitOn
    rw [if_neg (fun e => h (by rw [e]; simp)), splitOn_miss (fun e => h (List.mem_cons_of_mem _ e))]

theorem splitOn_hit {c : UInt8} : ∀ {a b : List UInt8}, c ∉ a → splitOn c (a ++ c :: b) = a :: splitOn c b
  | [], b, _ => by rw [List.nil_append, splitOn, if_pos rfl]
  | x :: a, b, h => by
    rw [List.cons_append, splitOn, if_neg (fun e => h (by rw [e]; simp)), splitOn_hit (fun e => h (List.mem_cons_of_mem _ e))]

theorem index_split {c : UInt8} : ∀ {l : List UInt8}, (Lib.index l [c] = -1 ∧ c ∉ l) ∨ ∃ a b, l = a ++ c :: b ∧ c ∉ a ∧ Lib.index l [c] = (a.length : Int)
  | [] => .inl ⟨by simp [Lib.index], by simp⟩
  | x :: r => by
    by_cases h : x = c
    · subst h
      exact .inr ⟨[], r, rfl, by simp, by rw [Lib.index]; simp [List.isPrefixOf]⟩
    · have hp : ([c] : List UInt8).isPrefixOf (x :: r) = false := by simp [List.isPrefixOf, Ne.symm h]
      have hix : Lib.index (x :: r) [c] = if Lib.index r [c] == -1 then -1 else Lib.index r [c] + 1 := by rw [Lib.index, hp]; simp
      rcases index_split (c := c) (l := r) with ⟨h1, h2⟩ | ⟨a, b, h1, h2, h3⟩
      · refine .inl ⟨by rw [hix, h1]; rfl, ?_⟩
        simp only [List.mem_cons, not_or]; exact ⟨Ne.symm h, h2⟩
      · refine .inr ⟨x :: a, b, by rw [h1]; rfl, ?_, ?_⟩
        · simp only [List.mem_cons, not_or]; exact ⟨Ne.symm h, h2⟩
        · rw [hix, h3, if_neg (by rw [beq_iff_eq]; omega), List.length_cons]; omega

theorem splitK_on {c : UInt8} : ∀ (n : Nat) (l : List UInt8), l.length ≤ n → Lib.splitK [c] 0 (Lib.count l [c]) l = splitOn c l := by
  intro n
  induction n with
  | zero =>
    intro l hl
    have : l = [] := List.eq_nil_of_length_eq_zero (by omega)
    subst this
    rw [Lib.count_miss (by simp [Lib.index])]; rfl
  | succ n ih =>
    intro l hl
    rcases index_split (c := c) (l := l) with ⟨h1, h2⟩ | ⟨a, b, h1, h2, h3⟩
    · rw [Lib.count_miss h1, splitOn_miss h2]; rfl
    · rw [Lib.count_hit (by simp) h3, Nat.add_comm 1, Lib.splitK, if_neg (by rw [beq_iff_eq, h3]; omega), h3, Int.toNat_natCast, Nat.add_zero]
      have e1 : l.take a.length = a := by rw [h1, List.take_left]
      have e2 : l.drop (a.length + ([c] : List UInt8).length) = b := by rw [h1, ← List.drop_drop, List.drop_left]; rfl
      rw [e1, e2, ih b (by rw [h1] at hl; simp at hl; omega), h1, splitOn_hit h2]

/-- the pieces of a text between a byte -/
def piecesB (c : UInt8) (s : ByteArray) : List ByteArray := (splitOn c (ls s)).map fun l => ⟨l.toArray⟩
theorem mk_ls (s : ByteArray) : (⟨(ls s).toArray⟩ : ByteArray) = s := ls_inj rfl
theorem splitB_pieces (c : UInt8) (s : ByteArray) : Lib.splitB ⟨#[c]⟩ 0 (Lib.countB s ⟨#[c]⟩) s = piecesB c s := by
  have h := Lib.splitB_data ⟨#[c]⟩ 0 (Lib.countB s ⟨#[c]⟩) s
  have h2 : (Lib.splitB ⟨#[c]⟩ 0 (Lib.countB s ⟨#[c]⟩) s).map ls = splitOn c (ls s) := h.trans (splitK_on _ _ (Nat.le_refl _))
  unfold piecesB
  rw [← h2, List.map_map]
  exact (List.map_id _).symm.trans (List.map_congr_left fun x _ => (mk_ls x).symm)
theorem splitB_len (c : UInt8) (s : ByteArray) : Lib.countB s ⟨#[c]⟩ + 1 = (piecesB c s).length := by
  rw [← splitB_pieces]; exact (Lib.splitB_all ⟨#[c]⟩ (Nat.le_refl 1) 0 _ s rfl).symm
theorem piecesB_getD (c : UInt8) (s : ByteArray) (i : Nat) (h : i < (splitOn c (ls s)).length) : ls ((piecesB c s).getD i ByteArray.empty) = (splitOn c (ls s)).getD i [] := by
  unfold piecesB
  rw [List.getD_eq_getElem?_getD, List.getElem?_map, List.getElem?_eq_getElem h, List.getD_eq_getElem?_getD, List.getElem?_eq_getElem h]; rfl
theorem pieces_len (c : UInt8) (s : ByteArray) : (piecesB c s).length = (splitOn c (ls s)).length := by unfold piecesB; rw [List.length_map]
theorem splitOn_bound (c : UInt8) : ∀ l, (splitOn c l).length ≤ l.length + 1
  | [] => by simp [splitOn]
  | x :: r => by
    have := splitOn_bound c r
    unfold splitOn
    split
    · simp only [List.length_cons]; omega
    · split
      · simp
      · rename_i h
        rw [h] at this
        simp only [List.length_cons] at this ⊢; omega
theorem splitOn_sum (c : UInt8) : ∀ l, (splitOn c l).flatten.length + (splitOn c l).length = l.length + 1
  | [] => by simp [splitOn]
  | x :: r => by
    have := splitOn_sum c r
    unfold splitOn
    split
    · simp only [List.flatten_cons, List.nil_append, List.length_cons]; omega
    · split
      · rename_i h; exact absurd h (splitOn_ne c r)
      · rename_i h
        rw [h] at this
        simp only [List.flatten_cons, List.length_append, List.length_cons] at this ⊢; omega
theorem mem_flatten_len {l : List (List UInt8)} {x : List UInt8} (h : x ∈ l) : x.length ≤ l.flatten.length := by
  induction l with
  | nil => cases h
  | cons a l ih =>
    rw [List.flatten_cons, List.length_append]
    rcases List.mem_cons.1 h with rfl | h
    · omega
    · have := ih h; omega
theorem piece_size (c : UInt8) (s : ByteArray) (i : Nat) : ((piecesB c s).getD i ByteArray.empty).size ≤ s.size := by
  by_cases h : i < (splitOn c (ls s)).length
  · rw [← ls_length, piecesB_getD c s i h, ← ls_length s]
    have h1 := splitOn_sum c (ls s)
    have h2 : (splitOn c (ls s)).getD i [] ∈ splitOn c (ls s) := by
      rw [List.getD_eq_getElem?_getD, List.getElem?_eq_getElem h]; exact List.getElem_mem _
    have h3 := mem_flatten_len h2
    have h4 : 1 ≤ (splitOn c (ls s)).length := by
      cases hs : splitOn c (ls s) with
      | nil => exact absurd hs (splitOn_ne c _)
      | cons _ _ => simp
    omega
  · rw [List.getD_eq_getElem?_getD, List.getElem?_eq_none (by rw [pieces_len]; omega)]; exact Nat.zero_le _

theorem box_ones {α : Type} {g : α → Value} {w : World} {b : Nat} {l : List α} {T : TypeId} (h : (box b (l.map g) T).holds w) (n : Nat) (hn : l.length = n) : Ones g w (some ⟨b, 0, none⟩) n l := ⟨hn, box_cells h⟩

theorem Sep.of_alloc (w : World) (cs : List Value) (T : TypeId) : Sep w [box w.heap.size cs T] (w.alloc (.cells cs.toArray T)) := (Sep.refl w).alloc cs T

end Go.Eng

