/- Walks of functions of this seat, printed by a program over the engine. Conditions: as each theorem says. -/
import Derived.Test.YtaoolgcddapegaaGreatDoorZsW17
namespace Go.Proofs.YtaoolgcddapegaaGreatDoor
noncomputable section
open Go.Eng Go.RowKit
set_option linter.unusedSimpArgs false
set_option linter.unusedVariables false
set_option maxRecDepth 20000
set_option maxHeartbeats 20000000
theorem hb34 : HasBody Tryz.prog 34 := fun _ _ => by kernel_rfl

theorem rtypes_any (k : Int) (w : World) (hk : 0 ≤ k ∧ k ≤ 9223372036854775807) : Ret Tryz.prog 34 #[iv k] w (fun v w' => v = .tuple #[iv (k / 16384), iv (k / 128 % 128), iv (k % 128)] ∧ Sep w [] w') := by
 refine Ret.st (N := 12) Tryz.func34 fun R hR S0 => ?_
 refine J.h 10 [] [] [] 6 (iv (IntKind.wrap .i64 (Int.tdiv k 16384))) (iv (k / 16384)) (congrArg (Value.int .i64) (IntWalk.i64_quo _ _ (by omega))) ?_
 refine J.h 2 [] [] [] 8 (iv (IntKind.wrap .i64 (Int.tdiv k 128))) (iv (k / 128)) (congrArg (Value.int .i64) (IntWalk.i64_quo _ _ (by omega))) ?_
 refine J.h 1 [] [] [] 9 (iv (Int.tmod (k / 128) 128)) (iv ((k / 128) % 128)) (congrArg (Value.int .i64) (IntWalk.rem_in _ _ (by omega))) ?_
 refine J.h 2 [] [] [] 11 (iv (Int.tmod k 128)) (iv (k % 128)) (congrArg (Value.int .i64) (IntWalk.rem_in _ _ (by omega))) ?_
 refine J.e 4 [iv (k / 16384), iv ((k / 128) % 128), iv (k % 128)] Tryz.func34 (hR _ _ ?_)
 exact ⟨rfl, S0.nil⟩

theorem hb47 : HasBody Tryz.prog 47 := fun _ _ => by kernel_rfl
def K47_0 := List.drop 1 (adv 16 [] (bodyOf Tryz.f47))
def K47_1 := List.drop 1 (adv 7 [false] K47_0)
def K47_2 := List.drop 1 (adv 7 [false] K47_1)
def K47_3 := List.drop 1 (adv 7 [false] K47_2)
theorem rfields_any (op : Int) (w : World) (hop : 1 ≤ op ∧ op ≤ 22) : Ret Tryz.prog 47 #[iv op] w (fun v w' => v = .string (fieldsF op) ∧ Sep w [] w') := by
 refine Ret.st (N := 25) Tryz.func47 fun R hR S0 => ?_
 have X1 : ∀ (tj4 : Bool) (w1 : World), ((tj4 = true → (op = 1 ∨ op = 2 ∨ op = 3)) ∧ (tj4 = false → ¬ (op = 1 ∨ op = 2 ∨ op = 3))) → Sep w [] w1 → J Tryz.prog 47 25 R K47_0 [(3, iv op), (4, .bool tj4)] w1 := by
  intro tj4 w1 htj4 S1
  refine J.b 0 [] [] [] 4 tj4 (fun fk1 => ?_) fun fk1 => ?_
  ·skip
   have fb1 := htj4.1 fk1
   refine J.e 5 [.string ⟨#[65, 75]⟩] Tryz.func47 (hR _ _ ?_)
   exact ⟨congrArg Value.string (by unfold fieldsF; (repeat first | rw [if_pos (by omega)] | rw [if_neg (by omega)]) <;> rfl), S1.nil⟩
  have fb2 := htj4.2 fk1
  have X2 : ∀ (tj8 : Bool) (w2 : World), ((tj8 = true → (op = 4 ∨ op = 18)) ∧ (tj8 = false → ¬ (op = 4 ∨ op = 18))) → Sep w [] w2 → J Tryz.prog 47 25 R K47_1 [(3, iv op), (8, .bool tj8)] w2 := by
   intro tj8 w2 htj8 S2
   refine J.b 0 [] [] [] 8 tj8 (fun fk2 => ?_) fun fk2 => ?_
   ·skip
    have fb3 := htj8.1 fk2
    refine J.e 5 [.string ⟨#[65, 66]⟩] Tryz.func47 (hR _ _ ?_)
    exact ⟨congrArg Value.string (by unfold fieldsF; (repeat first | rw [if_pos (by omega)] | rw [if_neg (by omega)]) <;> rfl), S2.nil⟩
   have fb4 := htj8.2 fk2
   have X3 : ∀ (tj11 : Bool) (w3 : World), ((tj11 = true → (op = 5 ∨ op = 6 ∨ op = 7 ∨ op = 8 ∨ op = 13 ∨ op = 14 ∨ op = 19 ∨ op = 21)) ∧ (tj11 = false → ¬ (op = 5 ∨ op = 6 ∨ op = 7 ∨ op = 8 ∨ op = 13 ∨ op = 14 ∨ op = 19 ∨ op = 21))) → Sep w [] w3 → J Tryz.prog 47 25 R K47_2 [(3, iv op), (11, .bool tj11)] w3 := by
    intro tj11 w3 htj11 S3
    refine J.b 0 [] [] [] 11 tj11 (fun fk3 => ?_) fun fk3 => ?_
    ·skip
     have fb5 := htj11.1 fk3
     refine J.e 5 [.string ⟨#[65, 66, 67, 75]⟩] Tryz.func47 (hR _ _ ?_)
     exact ⟨congrArg Value.string (by unfold fieldsF; (repeat first | rw [if_pos (by omega)] | rw [if_neg (by omega)]) <;> rfl), S3.nil⟩
    have fb6 := htj11.2 fk3
    have X4 : ∀ (tj20 : Bool) (w4 : World), ((tj20 = true → (op = 9 ∨ op = 10 ∨ op = 20 ∨ op = 22)) ∧ (tj20 = false → ¬ (op = 9 ∨ op = 10 ∨ op = 20 ∨ op = 22))) → Sep w [] w4 → J Tryz.prog 47 25 R K47_3 [(20, .bool tj20)] w4 := by
     intro tj20 w4 htj20 S4
     refine J.b 0 [] [] [] 20 tj20 (fun fk4 => ?_) fun fk4 => ?_
     ·skip
      have fb7 := htj20.1 fk4
      refine J.e 5 [.string ⟨#[65, 66, 75]⟩] Tryz.func47 (hR _ _ ?_)
      exact ⟨congrArg Value.string (by unfold fieldsF; (repeat first | rw [if_pos (by omega)] | rw [if_neg (by omega)]) <;> rfl), S4.nil⟩
     have fb8 := htj20.2 fk4
     refine J.e 7 [.string ⟨#[65, 66, 67]⟩] Tryz.func47 (hR _ _ ?_)
     exact ⟨congrArg Value.string (by unfold fieldsF; (repeat first | rw [if_pos (by omega)] | rw [if_neg (by omega)]) <;> rfl), S4.nil⟩
    refine J.c 7 [false] [] [] 20 (op = 9) (fun fk5 => ?_) fun fk5 => ?_
    ·skip
     exact J.t 2 (X4 true w3 (⟨fun h_ => by first | (cases h_; done) | (have h2_ := of_decide_eq_true h_; omega) | (have h2_ := beq_iff_eq.1 h_; omega) | omega, fun h_ => by first | (cases h_; done) | (have h2_ := of_decide_eq_false h_; omega) | (have h2_ := beq_eq_false_iff_ne.1 h_; omega) | omega⟩) S3)
    refine J.c 6 [false] [] [20] 20 (op = 10) (fun fk6 => ?_) fun fk6 => ?_
    ·skip
     exact J.t 2 (X4 true w3 (⟨fun h_ => by first | (cases h_; done) | (have h2_ := of_decide_eq_true h_; omega) | (have h2_ := beq_iff_eq.1 h_; omega) | omega, fun h_ => by first | (cases h_; done) | (have h2_ := of_decide_eq_false h_; omega) | (have h2_ := beq_eq_false_iff_ne.1 h_; omega) | omega⟩) S3)
    refine J.c 6 [false] [] [20] 20 (op = 20) (fun fk7 => ?_) fun fk7 => ?_
    ·skip
     exact J.t 2 (X4 true w3 (⟨fun h_ => by first | (cases h_; done) | (have h2_ := of_decide_eq_true h_; omega) | (have h2_ := beq_iff_eq.1 h_; omega) | omega, fun h_ => by first | (cases h_; done) | (have h2_ := of_decide_eq_false h_; omega) | (have h2_ := beq_eq_false_iff_ne.1 h_; omega) | omega⟩) S3)
    exact J.t 5 (X4 (op == 22) w3 (⟨fun h_ => by first | (cases h_; done) | (have h2_ := of_decide_eq_true h_; omega) | (have h2_ := beq_iff_eq.1 h_; omega) | omega, fun h_ => by first | (cases h_; done) | (have h2_ := of_decide_eq_false h_; omega) | (have h2_ := beq_eq_false_iff_ne.1 h_; omega) | omega⟩) S3)
   refine J.c 7 [false] [] [] 11 (op = 5) (fun fk8 => ?_) fun fk8 => ?_
   ·skip
    exact J.t 2 (X3 true w2 (⟨fun h_ => by first | (cases h_; done) | (have h2_ := of_decide_eq_true h_; omega) | (have h2_ := beq_iff_eq.1 h_; omega) | omega, fun h_ => by first | (cases h_; done) | (have h2_ := of_decide_eq_false h_; omega) | (have h2_ := beq_eq_false_iff_ne.1 h_; omega) | omega⟩) S2)
   refine J.c 6 [false] [] [11] 11 (op = 6) (fun fk9 => ?_) fun fk9 => ?_
   ·skip
    exact J.t 2 (X3 true w2 (⟨fun h_ => by first | (cases h_; done) | (have h2_ := of_decide_eq_true h_; omega) | (have h2_ := beq_iff_eq.1 h_; omega) | omega, fun h_ => by first | (cases h_; done) | (have h2_ := of_decide_eq_false h_; omega) | (have h2_ := beq_eq_false_iff_ne.1 h_; omega) | omega⟩) S2)
   refine J.c 6 [false] [] [11] 11 (op = 7) (fun fk10 => ?_) fun fk10 => ?_
   ·skip
    exact J.t 2 (X3 true w2 (⟨fun h_ => by first | (cases h_; done) | (have h2_ := of_decide_eq_true h_; omega) | (have h2_ := beq_iff_eq.1 h_; omega) | omega, fun h_ => by first | (cases h_; done) | (have h2_ := of_decide_eq_false h_; omega) | (have h2_ := beq_eq_false_iff_ne.1 h_; omega) | omega⟩) S2)
   refine J.c 6 [false] [] [11] 11 (op = 8) (fun fk11 => ?_) fun fk11 => ?_
   ·skip
    exact J.t 2 (X3 true w2 (⟨fun h_ => by first | (cases h_; done) | (have h2_ := of_decide_eq_true h_; omega) | (have h2_ := beq_iff_eq.1 h_; omega) | omega, fun h_ => by first | (cases h_; done) | (have h2_ := of_decide_eq_false h_; omega) | (have h2_ := beq_eq_false_iff_ne.1 h_; omega) | omega⟩) S2)
   refine J.c 6 [false] [] [11] 11 (op = 13) (fun fk12 => ?_) fun fk12 => ?_
   ·skip
    exact J.t 2 (X3 true w2 (⟨fun h_ => by first | (cases h_; done) | (have h2_ := of_decide_eq_true h_; omega) | (have h2_ := beq_iff_eq.1 h_; omega) | omega, fun h_ => by first | (cases h_; done) | (have h2_ := of_decide_eq_false h_; omega) | (have h2_ := beq_eq_false_iff_ne.1 h_; omega) | omega⟩) S2)
   refine J.c 6 [false] [] [11] 11 (op = 14) (fun fk13 => ?_) fun fk13 => ?_
   ·skip
    exact J.t 2 (X3 true w2 (⟨fun h_ => by first | (cases h_; done) | (have h2_ := of_decide_eq_true h_; omega) | (have h2_ := beq_iff_eq.1 h_; omega) | omega, fun h_ => by first | (cases h_; done) | (have h2_ := of_decide_eq_false h_; omega) | (have h2_ := beq_eq_false_iff_ne.1 h_; omega) | omega⟩) S2)
   refine J.c 6 [false] [] [11] 11 (op = 19) (fun fk14 => ?_) fun fk14 => ?_
   ·skip
    exact J.t 2 (X3 true w2 (⟨fun h_ => by first | (cases h_; done) | (have h2_ := of_decide_eq_true h_; omega) | (have h2_ := beq_iff_eq.1 h_; omega) | omega, fun h_ => by first | (cases h_; done) | (have h2_ := of_decide_eq_false h_; omega) | (have h2_ := beq_eq_false_iff_ne.1 h_; omega) | omega⟩) S2)
   exact J.t 5 (X3 (op == 21) w2 (⟨fun h_ => by first | (cases h_; done) | (have h2_ := of_decide_eq_true h_; omega) | (have h2_ := beq_iff_eq.1 h_; omega) | omega, fun h_ => by first | (cases h_; done) | (have h2_ := of_decide_eq_false h_; omega) | (have h2_ := beq_eq_false_iff_ne.1 h_; omega) | omega⟩) S2)
  refine J.c 7 [false] [] [] 8 (op = 4) (fun fk15 => ?_) fun fk15 => ?_
  ·skip
   exact J.t 2 (X2 true w1 (⟨fun h_ => by first | (cases h_; done) | (have h2_ := of_decide_eq_true h_; omega) | (have h2_ := beq_iff_eq.1 h_; omega) | omega, fun h_ => by first | (cases h_; done) | (have h2_ := of_decide_eq_false h_; omega) | (have h2_ := beq_eq_false_iff_ne.1 h_; omega) | omega⟩) S1)
  exact J.t 5 (X2 (op == 18) w1 (⟨fun h_ => by first | (cases h_; done) | (have h2_ := of_decide_eq_true h_; omega) | (have h2_ := beq_iff_eq.1 h_; omega) | omega, fun h_ => by first | (cases h_; done) | (have h2_ := of_decide_eq_false h_; omega) | (have h2_ := beq_eq_false_iff_ne.1 h_; omega) | omega⟩) S1)
 refine J.c 16 [] [(3, iv op)] [] 4 (op = 1) (fun fk16 => ?_) fun fk16 => ?_
 ·skip
  exact J.t 2 (X1 true w (⟨fun h_ => by first | (cases h_; done) | (have h2_ := of_decide_eq_true h_; omega) | (have h2_ := beq_iff_eq.1 h_; omega) | omega, fun h_ => by first | (cases h_; done) | (have h2_ := of_decide_eq_false h_; omega) | (have h2_ := beq_eq_false_iff_ne.1 h_; omega) | omega⟩) S0)
 refine J.c 6 [false] [] [4] 4 (op = 2) (fun fk17 => ?_) fun fk17 => ?_
 ·skip
  exact J.t 2 (X1 true w (⟨fun h_ => by first | (cases h_; done) | (have h2_ := of_decide_eq_true h_; omega) | (have h2_ := beq_iff_eq.1 h_; omega) | omega, fun h_ => by first | (cases h_; done) | (have h2_ := of_decide_eq_false h_; omega) | (have h2_ := beq_eq_false_iff_ne.1 h_; omega) | omega⟩) S0)
 exact J.t 5 (X1 (op == 3) w (⟨fun h_ => by first | (cases h_; done) | (have h2_ := of_decide_eq_true h_; omega) | (have h2_ := beq_iff_eq.1 h_; omega) | omega, fun h_ => by first | (cases h_; done) | (have h2_ := of_decide_eq_false h_; omega) | (have h2_ := beq_eq_false_iff_ne.1 h_; omega) | omega⟩) S0)

/-! layer 13: bytes and texts of instructions -/
def setI (i : Ins) (c n : Int) : Ins := if c = 65 then { i with gA := n } else if c = 66 then { i with gB := n } else if c = 67 then { i with gC := n } else { i with gK := n }
def wordL (c : UInt8) (n : Int) : List UInt8 := (if c = 75 then [] else [114]) ++ Lib.itoa n
def partL (i : Ins) (c : UInt8) : List UInt8 := 32 :: wordL c (fldF i (c.toNat : Int))
def textLs (i : Ins) : List UInt8 := ls (nameL.getD i.gOp.toNat ByteArray.empty) ++ (ls (fieldsF i.gOp)).flatMap (partL i)
def textI (i : Ins) : ByteArray := if formB i then ⟨(textLs i).toArray⟩ else ByteArray.empty
abbrev ins0 : Ins := ⟨0, 0, 0, 0, 0⟩
def atM (l : List UInt8) : Option Int := match Lib.atoiAll l with | .ok n => some n | _ => none
def trimR (w : List UInt8) : List UInt8 := if w.head? = some 114 then w.tail else w
def matW (c : UInt8) (w : List UInt8) : Option Int := atM (if c = 75 then w else trimR w)
def dW (c : UInt8) (w : List UInt8) : List UInt8 := if c = 75 then w else w.tail
def refW (c : UInt8) (w : List UInt8) : Option Int :=
  if (c = 75 ∨ (2 ≤ w.length ∧ w.head? = some 114)) ∧ (dW c w).length ≤ 24 ∧ formL (dW c w) = true ∧ fitL (valL (dW c w)) = true then some (valL (dW c w)) else none
def goW (f : UInt8 → List UInt8 → Option Int) : List UInt8 → List (List UInt8) → Ins → Option Ins
  | [], _, i => some i
  | c :: cs, ws, i => match f c (ws.headD []) with
    | none => none
    | some n => goW f cs ws.tail (setI i (c.toNat : Int) n)
def opN (w : List UInt8) : Nat → Int
  | 0 => 0
  | k + 1 => if k ≠ 0 ∧ ls (nameL.getD k ByteArray.empty) = w then (k : Int) else opN w k
abbrev opW (w : List UInt8) : Int := opN w 23
def readI (f : UInt8 → List UInt8 → Option Int) (s : List UInt8) : Option Ins :=
  if opW ((splitOn 32 s).headD []) < 1 ∨ (splitOn 32 s).length ≠ 1 + (fieldsF (opW ((splitOn 32 s).headD []))).size then none else goW f (ls (fieldsF (opW ((splitOn 32 s).headD [])))) (splitOn 32 s).tail ⟨opW ((splitOn 32 s).headD []), 0, 0, 0, 0⟩
/-- what the texts mean: the instruction, and the error's number -/
def parI (s : ByteArray) : Ins := if 100 < s.size then ins0 else match (readI refW (ls s)).filter formB with | some i => i | none => ins0
def parIE (s : ByteArray) : Int := if 100 < s.size then 5 else match (readI refW (ls s)).filter formB with | some _ => 0 | none => 3
theorem opN_name (w : List UInt8) : ∀ k, opN w k = 0 ∨ ls (nameL.getD (opN w k).toNat ByteArray.empty) = w
  | 0 => .inl rfl
  | k + 1 => by
    unfold opN; split
    · rename_i h; right; rw [Int.toNat_natCast]; exact h.2
    · exact opN_name w k
theorem opW_name {op : Int} (h : 1 ≤ op ∧ op ≤ 22) : opW (ls (nameL.getD op.toNat ByteArray.empty)) = op := by
  rcases ops_cases h with rfl | rfl | rfl | rfl | rfl | rfl | rfl | rfl | rfl | rfl | rfl | rfl | rfl | rfl | rfl | rfl | rfl | rfl | rfl | rfl | rfl | rfl <;> decide +kernel
theorem opN_zero {w : List UInt8} : ∀ {k}, (∀ j, j < k → j ≠ 0 → ls (nameL.getD j ByteArray.empty) ≠ w) → opN w k = 0
  | 0, _ => rfl
  | k + 1, h => by
    unfold opN; rw [if_neg (fun hk => h k (by omega) hk.1 hk.2)]; exact opN_zero fun j hj => h j (by omega)
/-! splitting and joining at blanks -/
theorem split_join (c : UInt8) : ∀ l : List UInt8, ((splitOn c l).headD [] ++ (splitOn c l).tail.flatMap fun w => c :: w) = l
  | [] => rfl
  | x :: l => by
    have ih := split_join c l
    rw [splitOn]
    split
    · rename_i h
      cases hs : splitOn c l with
      | nil => exact absurd hs (splitOn_ne c l)
      | cons p ps =>
        rw [hs] at ih
        simp only [List.headD_cons, List.tail_cons] at ih
        simp only [List.headD_cons, List.tail_cons, List.flatMap_cons, List.nil_append, List.cons_append]
        rw [ih, h]
    · cases hs : splitOn c l with
      | nil => exact absurd hs (splitOn_ne c l)
      | cons p ps =>
        rw [hs] at ih
        simp only [List.headD_cons, List.tail_cons] at ih
        simp only [List.headD_cons, List.tail_cons, List.cons_append]
        rw [ih]
theorem split_cat {c : UInt8} {a : List UInt8} (ha : c ∉ a) : ∀ ws : List (List UInt8), (∀ w ∈ ws, c ∉ w) → splitOn c (a ++ ws.flatMap fun w => c :: w) = a :: ws := by
  intro ws
  induction ws generalizing a with
  | nil => intro _; rw [List.flatMap_nil, List.append_nil, splitOn_miss ha]
  | cons w ws ih =>
    intro h
    rw [List.flatMap_cons, List.cons_append, splitOn_hit ha, ih (h w (by simp)) fun x hx => h x (List.mem_cons_of_mem _ hx)]
/-! a word, read in both ways -/
theorem trim_ref {w : List UInt8} (h : 2 ≤ w.length ∧ w.head? = some 114) : trimR w = w.tail := by unfold trimR; rw [if_pos h.2]
theorem head_tail {w : List UInt8} (h : w.head? = some 114) : w = 114 :: w.tail := by
  cases w with
  | nil => cases h
  | cons x r => rw [List.head?_cons] at h; rw [Option.some.inj h]; rfl
theorem atM_form {l : List UInt8} (h : formL l = true) (hf : fitL (valL l) = true) : atM l = some (valL l) := by
  unfold atM; rw [atoi_form h, if_pos hf]
theorem ref_mat {c : UInt8} {w : List UInt8} {n : Int} (h : refW c w = some n) : matW c w = some n ∧ w = wordL c n := by
  unfold refW at h
  split at h
  · rename_i hc
    obtain ⟨h1, _, h3, h4⟩ := hc
    have e := Option.some.inj h
    unfold dW at h3 h4 e
    by_cases c75 : c = 75
    · rw [if_pos c75] at h3 h4 e
      unfold matW wordL
      rw [if_pos c75, if_pos c75, atM_form h3 h4, e]
      exact ⟨rfl, by rw [← e, itoa_form h3]; rfl⟩
    · rw [if_neg c75] at h3 h4 e
      have h2 := h1.resolve_left c75
      unfold matW wordL
      rw [if_neg c75, if_neg c75, trim_ref h2, atM_form h3 h4, e]
      exact ⟨rfl, by rw [← e, itoa_form h3]; exact head_tail h2.2⟩
  · cases h
theorem itoa_len {n : Int} (h : -9223372036854775808 ≤ n ∧ n ≤ 9223372036854775807) : (Lib.itoa n).length ≤ 20 := by
  have := itoaB_size h; rw [← ls_length] at this; exact this
theorem itoa_ne (n : Int) : Lib.itoa n ≠ [] := by
  intro h
  have := (form_itoa n).1
  rw [h] at this; exact absurd this (by decide)
theorem ref_word (c : UInt8) {n : Int} (h : -9223372036854775808 ≤ n ∧ n ≤ 9223372036854775807) : refW c (wordL c n) = some n := by
  obtain ⟨f1, f2⟩ := form_itoa n
  have hl := itoa_len h
  have hne := itoa_ne n
  have hp : 0 < (Lib.itoa n).length := List.length_pos_iff.2 hne
  have hfit : fitL (valL (Lib.itoa n)) = true := by rw [f2]; simp only [fitL, Bool.and_eq_true, decide_eq_true_eq]; exact h
  by_cases c75 : c = 75
  · have ew : wordL c n = Lib.itoa n := by unfold wordL; rw [if_pos c75]; rfl
    have ed : dW c (Lib.itoa n) = Lib.itoa n := by unfold dW; rw [if_pos c75]
    unfold refW
    rw [ew, ed, if_pos ⟨.inl c75, by omega, f1, hfit⟩, f2]
  · have ew : wordL c n = 114 :: Lib.itoa n := by unfold wordL; rw [if_neg c75]; rfl
    have ed : dW c (114 :: Lib.itoa n) = Lib.itoa n := by unfold dW; rw [if_neg c75]; rfl
    unfold refW
    rw [ew, ed, if_pos ⟨.inr ⟨by rw [List.length_cons]; omega, rfl⟩, by omega, f1, hfit⟩, f2]
theorem goW_ref : ∀ {cs : List UInt8} {ws : List (List UInt8)} {i j : Ins}, goW refW cs ws i = some j → goW matW cs ws i = some j
  | [], _, _, _, h => h
  | c :: cs, ws, i, j, h => by
    unfold goW at h ⊢
    cases hw : refW c (ws.headD []) with
    | none => rw [hw] at h; cases h
    | some n => rw [hw] at h; rw [(ref_mat hw).1]; exact goW_ref h
theorem goW_op {f : UInt8 → List UInt8 → Option Int} : ∀ {cs : List UInt8} {ws : List (List UInt8)} {i j : Ins}, goW f cs ws i = some j → j.gOp = i.gOp
  | [], _, _, _, h => by rw [← Option.some.inj h]
  | c :: cs, ws, i, j, h => by
    unfold goW at h
    cases hw : f c (ws.headD []) with
    | none => rw [hw] at h; cases h
    | some n =>
      rw [hw] at h
      rw [goW_op h]; unfold setI; repeat' split
      all_goals rfl
/-- the words of a text that is read, out of the instruction -/
theorem goW_words : ∀ {cs : List UInt8} {ws : List (List UInt8)} {i j : Ins}, (∀ c ∈ cs, c = 65 ∨ c = 66 ∨ c = 67 ∨ c = 75) → cs.Nodup → ws.length = cs.length → goW refW cs ws i = some j →
    (ws = cs.map fun c => wordL c (fldF j (c.toNat : Int))) ∧ ∀ c : UInt8, (c = 65 ∨ c = 66 ∨ c = 67 ∨ c = 75) → c ∉ cs → fldF j (c.toNat : Int) = fldF i (c.toNat : Int)
  | [], ws, i, j, _, _, hl, h => by
    have e := Option.some.inj h
    exact ⟨by rw [List.eq_nil_of_length_eq_zero hl]; rfl, fun c _ _ => by rw [← e]⟩
  | c :: cs, [], i, j, _, _, hl, h => by cases hl
  | c :: cs, w :: ws, i, j, hc, hn, hl, h => by
    unfold goW at h
    rw [List.headD_cons, List.tail_cons] at h
    cases hw : refW c w with
    | none => rw [hw] at h; cases h
    | some n =>
      rw [hw] at h
      obtain ⟨h1, h2⟩ := goW_words (fun x hx => hc x (List.mem_cons_of_mem _ hx)) (List.nodup_cons.1 hn).2 (by simpa using hl) h
      have hset : fldF (setI i (c.toNat : Int) n) (c.toNat : Int) = n := by
        rcases hc c (by simp) with rfl | rfl | rfl | rfl <;> rfl
      have hcc := (h2 c (hc c (by simp)) (List.nodup_cons.1 hn).1).trans hset
      refine ⟨by rw [List.map_cons, hcc, ← h1, ← (ref_mat hw).2], fun x hx hxn => ?_⟩
      rw [h2 x hx fun hm => hxn (List.mem_cons_of_mem _ hm)]
      have hne : x ≠ c := fun e => hxn (by rw [e]; simp)
      rcases hx with rfl | rfl | rfl | rfl <;> rcases hc c (by simp) with rfl | rfl | rfl | rfl <;> first | rfl | exact absurd rfl hne
theorem fields_shape (op : Int) : ls (fieldsF op) = [65, 75] ∨ ls (fieldsF op) = [65, 66] ∨ ls (fieldsF op) = [65, 66, 75] ∨ ls (fieldsF op) = [65, 66, 67] ∨ ls (fieldsF op) = [65, 66, 67, 75] := by
  unfold fieldsF; repeat' split
  · left; rfl
  · right; left; rfl
  · right; right; left; rfl
  · right; right; right; left; rfl
  · right; right; right; right; rfl
theorem fields_ok (op : Int) : (∀ c ∈ ls (fieldsF op), c = 65 ∨ c = 66 ∨ c = 67 ∨ c = 75) ∧ (ls (fieldsF op)).Nodup := by
  rcases fields_shape op with h | h | h | h | h <;> rw [h] <;> exact ⟨by decide, by decide⟩
theorem readI_some {f : UInt8 → List UInt8 → Option Int} {l : List UInt8} {j : Ins} (h : readI f l = some j) : 1 ≤ opW ((splitOn 32 l).headD []) ∧ (splitOn 32 l).length = 1 + (fieldsF (opW ((splitOn 32 l).headD []))).size ∧ goW f (ls (fieldsF (opW ((splitOn 32 l).headD [])))) (splitOn 32 l).tail ⟨opW ((splitOn 32 l).headD []), 0, 0, 0, 0⟩ = some j := by
  unfold readI at h
  split at h
  · cases h
  · rename_i hc; exact ⟨by omega, by omega, h⟩
theorem readI_yes {f : UInt8 → List UInt8 → Option Int} {l : List UInt8} (h1 : 1 ≤ opW ((splitOn 32 l).headD [])) (h2 : (splitOn 32 l).length = 1 + (fieldsF (opW ((splitOn 32 l).headD []))).size) : readI f l = goW f (ls (fieldsF (opW ((splitOn 32 l).headD [])))) (splitOn 32 l).tail ⟨opW ((splitOn 32 l).headD []), 0, 0, 0, 0⟩ := by
  unfold readI; rw [if_neg (by omega)]
theorem read_ref {l : List UInt8} {j : Ins} (h : readI refW l = some j) : readI matW l = some j ∧ textLs j = l := by
  obtain ⟨h1, h2, h3⟩ := readI_some h
  refine ⟨(readI_yes h1 h2).trans (goW_ref h3), ?_⟩
  have hop : j.gOp = opW ((splitOn 32 l).headD []) := goW_op h3
  obtain ⟨hw, _⟩ := goW_words (fields_ok _).1 (fields_ok _).2 (by rw [List.length_tail, h2, ls_length]; omega) h3
  have hn := (opN_name ((splitOn 32 l).headD []) 23).resolve_left (show ¬ opN _ 23 = 0 by show ¬ opW _ = 0; omega)
  have hj := split_join 32 l
  unfold textLs
  rw [hop, show nameL.getD (opW ((splitOn 32 l).headD [])).toNat ByteArray.empty = nameL.getD (opN ((splitOn 32 l).headD []) 23).toNat ByteArray.empty from rfl, hn]
  conv => rhs; rw [← hj]
  congr 1
  conv => rhs; rw [hw]
  rw [List.flatMap_map]; rfl
theorem itoa_blank (n : Int) : 32 ∉ Lib.itoa n := by
  obtain ⟨f1, _⟩ := form_itoa n
  have hc := canonL_facts (form_canon f1)
  have hd : 32 ∉ digL (Lib.itoa n) := fun h => by
    have := hc.2.1 32 h
    exact absurd this (by decide)
  intro h
  cases hn : negL (Lib.itoa n) with
  | true =>
    rw [digL_neg hn] at h
    rcases List.mem_cons.1 h with h | h
    · exact absurd h (by decide)
    · exact hd h
  | false => rw [digL_pos hn] at hd; exact hd h
theorem word_blank (c : UInt8) (n : Int) : 32 ∉ wordL c n := by
  unfold wordL
  intro h
  rcases List.mem_append.1 h with h | h
  · split at h
    · cases h
    · exact absurd (List.mem_singleton.1 h) (by decide)
  · exact itoa_blank n h
theorem name_blank {op : Int} (h : 1 ≤ op ∧ op ≤ 22) : 32 ∉ ls (nameL.getD op.toNat ByteArray.empty) := by
  rcases ops_cases h with rfl | rfl | rfl | rfl | rfl | rfl | rfl | rfl | rfl | rfl | rfl | rfl | rfl | rfl | rfl | rfl | rfl | rfl | rfl | rfl | rfl | rfl <;> decide +kernel
theorem split_text {j : Ins} (h : 1 ≤ j.gOp ∧ j.gOp ≤ 22) : splitOn 32 (textLs j) = ls (nameL.getD j.gOp.toNat ByteArray.empty) :: (ls (fieldsF j.gOp)).map fun c => wordL c (fldF j (c.toNat : Int)) := by
  have e : textLs j = ls (nameL.getD j.gOp.toNat ByteArray.empty) ++ ((ls (fieldsF j.gOp)).map fun c => wordL c (fldF j (c.toNat : Int))).flatMap fun w => 32 :: w := by
    unfold textLs; rw [List.flatMap_map]; rfl
  rw [e]
  exact split_cat (name_blank h) _ fun w hw => by
    obtain ⟨c, _, rfl⟩ := List.mem_map.1 hw
    exact word_blank c _
theorem goW_own {j : Ins} (h : formB j = true) : goW refW (ls (fieldsF j.gOp)) ((ls (fieldsF j.gOp)).map fun c => wordL c (fldF j (c.toNat : Int))) ⟨j.gOp, 0, 0, 0, 0⟩ = some j := by
  have hp := formB_iff.1 h
  have ha : refW 65 (wordL 65 j.gA) = some j.gA := ref_word 65 (by omega)
  have hb : refW 66 (wordL 66 j.gB) = some j.gB := ref_word 66 (by omega)
  have hc : refW 67 (wordL 67 j.gC) = some j.gC := ref_word 67 (by omega)
  have hk : refW 75 (wordL 75 j.gK) = some j.gK := ref_word 75 (by omega)
  have e1 : fldF j (((65 : UInt8).toNat : Nat) : Int) = j.gA := rfl
  have e2 : fldF j (((66 : UInt8).toNat : Nat) : Int) = j.gB := rfl
  have e3 : fldF j (((67 : UInt8).toNat : Nat) : Int) = j.gC := rfl
  have e4 : fldF j (((75 : UInt8).toNat : Nat) : Int) = j.gK := rfl
  have hB := has_B hp.1; have hC := has_C hp.1; have hK := has_K hp.1
  unfold hasF at hB hC hK
  rcases fields_shape j.gOp with h5 | h5 | h5 | h5 | h5 <;> rw [h5] at hB hC hK ⊢ <;> simp only [List.map_cons, List.map_nil, e1, e2, e3, e4, goW, List.headD_cons, List.tail_cons, ha, hb, hc, hk]
  · have z1 : j.gB = 0 := by have := mt hB.2 (by decide); omega
    have z2 : j.gC = 0 := by have := mt hC.2 (by decide); omega
    obtain ⟨o, a, b, c, k⟩ := j; simp only at z1 z2; subst z1 z2; rfl
  · have z1 : j.gK = 0 := by have := mt hK.2 (by decide); omega
    have z2 : j.gC = 0 := by have := mt hC.2 (by decide); omega
    obtain ⟨o, a, b, c, k⟩ := j; simp only at z1 z2; subst z1 z2; rfl
  · have z2 : j.gC = 0 := by have := mt hC.2 (by decide); omega
    obtain ⟨o, a, b, c, k⟩ := j; simp only at z2; subst z2; rfl
  · have z1 : j.gK = 0 := by have := mt hK.2 (by decide); omega
    obtain ⟨o, a, b, c, k⟩ := j; simp only at z1; subst z1; rfl
  · rfl
theorem read_own {j : Ins} (h : formB j = true) : readI refW (textLs j) = some j := by
  have hp := formB_iff.1 h
  have hs := split_text hp.1
  have ho : opW ((splitOn 32 (textLs j)).headD []) = j.gOp := by rw [hs]; exact opW_name hp.1
  rw [readI_yes (by rw [ho]; omega) (by rw [ho, hs, List.length_cons, List.length_map, ls_length]; omega), ho, hs, List.tail_cons]
  exact goW_own h
theorem read_own_filter {j : Ins} (h : formB j = true) : (readI refW (textLs j)).filter formB = some j := by rw [read_own h, Option.filter_some, if_pos h]
theorem filter_some {r : Option Ins} {j : Ins} (h : r.filter formB = some j) : r = some j ∧ formB j = true := by
  cases r with
  | none => cases h
  | some i =>
    rw [Option.filter_some] at h
    split at h
    · rename_i hf; have := Option.some.inj h; subst this; exact ⟨rfl, hf⟩
    · cases h
theorem text_len {j : Ins} (h : formB j = true) : (textLs j).length ≤ 95 := by
  have hp := formB_iff.1 h
  have hn := name_size hp.1
  rw [← ls_length] at hn
  have hw : ∀ c : UInt8, (c = 65 ∨ c = 66 ∨ c = 67 ∨ c = 75) → (partL j c).length ≤ 22 := fun c hc => by
    have hb : -9223372036854775808 ≤ fldF j (c.toNat : Int) ∧ fldF j (c.toNat : Int) ≤ 9223372036854775807 := by
      rcases hc with rfl | rfl | rfl | rfl
      · show _ ≤ j.gA ∧ j.gA ≤ _; omega
      · show _ ≤ j.gB ∧ j.gB ≤ _; omega
      · show _ ≤ j.gC ∧ j.gC ≤ _; omega
      · show _ ≤ j.gK ∧ j.gK ≤ _; omega
    have := itoa_len hb
    unfold partL wordL
    rw [List.length_cons, List.length_append]
    split <;> simp only [List.length_nil, List.length_singleton] <;> omega
  have a := hw 65 (by decide); have b := hw 66 (by decide); have c := hw 67 (by decide); have d := hw 75 (by decide)
  unfold textLs
  rw [List.length_append]
  rcases fields_shape j.gOp with h5 | h5 | h5 | h5 | h5 <;> rw [h5] <;> simp only [List.flatMap_cons, List.flatMap_nil, List.length_append, List.length_nil] <;> omega
theorem textI_yes {j : Ins} (h : formB j = true) : ls (textI j) = textLs j ∧ (textI j).size ≤ 95 := by
  have e : ls (textI j) = textLs j := by unfold textI; rw [if_pos h]
  exact ⟨e, by rw [← ls_length, e]; exact text_len h⟩
theorem textI_no {j : Ins} (h : formB j = false) : textI j = ByteArray.empty := by unfold textI; rw [if_neg (by rw [h]; decide)]
theorem read_empty (f : UInt8 → List UInt8 → Option Int) : readI f [] = none := by
  unfold readI; rw [if_pos]; left
  rw [show (splitOn 32 []).headD [] = [] from rfl, show opW [] = 0 by decide +kernel]; decide
/-- what the program does with what it has read -/
theorem par_long {s : ByteArray} (h : 100 < s.size) : parI s = ins0 ∧ parIE s = 5 := by unfold parI parIE; rw [if_pos h, if_pos h]; exact ⟨rfl, rfl⟩
theorem par_val {s : ByteArray} {j : Ins} (h : ¬ 100 < s.size) (hf : (readI refW (ls s)).filter formB = some j) : parI s = j ∧ parIE s = 0 := by unfold parI parIE; rw [if_neg h, if_neg h, hf]; exact ⟨rfl, rfl⟩
theorem par_none {s : ByteArray} (h : ¬ 100 < s.size) (hf : (readI refW (ls s)).filter formB = none) : parI s = ins0 ∧ parIE s = 3 := by unfold parI parIE; rw [if_neg h, if_neg h, hf]; exact ⟨rfl, rfl⟩
theorem mat_none {s : ByteArray} (h : ¬ 100 < s.size) (hm : readI matW (ls s) = none) : parI s = ins0 ∧ parIE s = 3 := by
  cases hf : (readI refW (ls s)).filter formB with
  | none => exact par_none h hf
  | some j => have := (read_ref (filter_some hf).1).1; rw [hm] at this; cases this
theorem mat_other {s : ByteArray} {j : Ins} (h : ¬ 100 < s.size) (hm : readI matW (ls s) = some j) (ht : ((textI j).toList == s.toList) = false) : parI s = ins0 ∧ parIE s = 3 := by
  cases hf : (readI refW (ls s)).filter formB with
  | none => exact par_none h hf
  | some i =>
    obtain ⟨h1, h2⟩ := filter_some hf
    obtain ⟨h3, h4⟩ := read_ref h1
    rw [hm] at h3
    have e := Option.some.inj h3; subst e
    rw [beq_ls, beq_eq_false_iff_ne] at ht
    exact absurd ((textI_yes h2).1.trans h4) ht
theorem mat_same {s : ByteArray} {j : Ins} (h : ¬ 100 < s.size) (hm : readI matW (ls s) = some j) (ht : ((textI j).toList == s.toList) = true) : parI s = j ∧ parIE s = 0 := by
  rw [beq_ls, beq_iff_eq] at ht
  cases hf : formB j with
  | false => rw [textI_no hf] at ht; rw [← ht] at hm; rw [show ls ByteArray.empty = [] from rfl, read_empty] at hm; cases hm
  | true => exact par_val h (by rw [← ht, (textI_yes hf).1]; exact read_own_filter hf)
/-! bytes -/
theorem wrapB (n : Int) : IntKind.wrap .u8 n = n % 256 := by simp [IntKind.wrap, IntKind.bits, IntKind.signed]
def u64F (k : Int) : Int := k % 18446744073709551616
def encL (i : Ins) : List Int := [i.gOp % 256, i.gA % 256, i.gB % 256, i.gC % 256, u64F i.gK / 72057594037927936 % 256, u64F i.gK / 281474976710656 % 256, u64F i.gK / 1099511627776 % 256, u64F i.gK / 4294967296 % 256, u64F i.gK / 16777216 % 256, u64F i.gK / 65536 % 256, u64F i.gK / 256 % 256, u64F i.gK / 1 % 256]
def encX (i : Ins) : List Int := if formB i then encL i else []
def encE (i : Ins) : Int := if formB i then 0 else 1
theorem encX_yes {i : Ins} (h : formB i = true) : encX i = encL i ∧ encE i = 0 := by unfold encX encE; rw [if_pos h, if_pos h]; exact ⟨rfl, rfl⟩
theorem encX_no {i : Ins} (h : formB i = false) : encX i = [] ∧ encE i = 1 := by unfold encX encE; rw [if_neg (by rw [h]; decide), if_neg (by rw [h]; decide)]; exact ⟨rfl, rfl⟩
theorem encX_len (i : Ins) : (encX i).length = 12 ∨ (encX i).length = 0 := by unfold encX; split; exact .inl rfl; exact .inr rfl
/-! walks of texts -/
theorem has_yes {s : ByteArray} {c : Int} {i : Nat} (hi : i < s.size) (h : byteAt s i = c) : hasF s c = true := by
  unfold hasF; rw [List.any_eq_true]
  have hl := ls_length s
  refine ⟨(ls s).getD i 0, ?_, by rw [beq_iff_eq, ← h, byteAt_ls]⟩
  rw [List.getD_eq_getElem?_getD, List.getElem?_eq_getElem (by omega)]; exact List.getElem_mem _
theorem has_no {s : ByteArray} {c : Int} (h : ∀ j, j < s.size → byteAt s j ≠ c) : hasF s c = false := by
  unfold hasF; rw [List.any_eq_false]
  intro x hx
  obtain ⟨j, hj, rfl⟩ := List.mem_iff_getElem.1 hx
  have := h j (by rw [← ls_length]; exact hj)
  rw [byteAt_ls, List.getD_eq_getElem?_getD, List.getElem?_eq_getElem hj] at this
  simpa using this
theorem byte_eq {s : ByteArray} {k : Nat} {c : Nat} (hc : c < 256) : byteAt s k = c ↔ (ls s).getD k 0 = UInt8.ofNat c := by
  rw [byteAt_ls]
  constructor
  · intro h; apply UInt8.toNat_inj.1; rw [UInt8.toNat_ofNat', Nat.mod_eq_of_lt (by omega)]; omega
  · intro h; rw [h, UInt8.toNat_ofNat', Nat.mod_eq_of_lt (by omega)]
theorem take_one {l : List UInt8} {k : Nat} (hk : k < l.length) : l.take (k + 1) = l.take k ++ [l.getD k 0] := by
  rw [List.take_add_one, List.getD_eq_getElem?_getD, List.getElem?_eq_getElem hk]; rfl
theorem text_step {i : Ins} {t u F : ByteArray} {N : List UInt8} {k : Int} (h0 : 0 ≤ k) (hk : k < (F.size : Int)) (ht : ls t = N ++ ((ls F).take k.toNat).flatMap (partL i)) (hu : ls u = ls t ++ partL i ((ls F).getD k.toNat 0)) :
    ls u = N ++ ((ls F).take (k + 1).toNat).flatMap (partL i) := by
  rw [hu, ht, show (k + 1).toNat = k.toNat + 1 by omega, take_one (by rw [ls_length]; omega), List.flatMap_append, List.append_assoc]; simp
theorem part_r {i : Ins} {t F : ByteArray} {k : Nat} (h : byteAt F k ≠ 75) : ls (((t ++ (⟨#[32]⟩ : ByteArray)) ++ (⟨#[114]⟩ : ByteArray)) ++ itoaB (fldF i (byteAt F k))) = ls t ++ partL i ((ls F).getD k 0) := by
  unfold partL wordL
  rw [if_neg (show ¬ (ls F).getD k 0 = 75 from fun e => h ((byte_eq (c := 75) (by decide)).2 e)), ls_append, ls_append, ls_append, ← byteAt_ls]
  simp only [List.append_assoc]; rfl
theorem part_k {i : Ins} {t F : ByteArray} {k : Nat} (h : byteAt F k = 75) : ls ((t ++ (⟨#[32]⟩ : ByteArray)) ++ itoaB (fldF i (byteAt F k))) = ls t ++ partL i ((ls F).getD k 0) := by
  unfold partL wordL
  rw [if_pos (show (ls F).getD k 0 = 75 from (byte_eq (c := 75) (by decide)).1 h), ls_append, ls_append, ← byteAt_ls]
  simp only [List.append_assoc]; rfl
theorem fld_bd {i : Ins} (h : (-9223372036854775808 ≤ i.gA ∧ i.gA ≤ 9223372036854775807) ∧ (-9223372036854775808 ≤ i.gB ∧ i.gB ≤ 9223372036854775807) ∧ (-9223372036854775808 ≤ i.gC ∧ i.gC ≤ 9223372036854775807) ∧ (-9223372036854775808 ≤ i.gK ∧ i.gK ≤ 9223372036854775807)) (c : Int) : -9223372036854775808 ≤ fldF i c ∧ fldF i c ≤ 9223372036854775807 := by
  unfold fldF; repeat' split
  · exact h.1
  · exact h.2.1
  · exact h.2.2.1
  · exact h.2.2.2
theorem text_done {i : Ins} {t : ByteArray} (h : formB i = true) (ht : ls t = ls (rowsL.getD i.gOp.toNat rwo0).gname ++ ((ls (rowsL.getD i.gOp.toNat rwo0).gfields).take (rowsL.getD i.gOp.toNat rwo0).gfields.size).flatMap (partL i)) : t = textI i := by
  have hp := formB_iff.1 h
  obtain ⟨r1, r2, _⟩ := rows_at hp.1
  apply ls_inj
  rw [(textI_yes h).1, ht, r1, r2, ← ls_length, List.take_length]; rfl
theorem trim_eq (w : List UInt8) : Lib.trimPrefix w [114] = trimR w := by
  unfold Lib.trimPrefix Lib.hasPrefix trimR
  cases w with
  | nil => rfl
  | cons x r =>
    by_cases hx : x = 114
    · subst hx; simp
    · simp [hx, Ne.symm hx]

theorem hb48 : HasBody Tryz.prog 48 := fun _ _ => by kernel_rfl
def K48_0 := adv 11 [] (bodyOf Tryz.f48)
theorem uses_any (s : ByteArray) (c : Int) (w : World) (hs : s.size ≤ 9223372036854775807) : Ret Tryz.prog 48 #[.string s, .int .u8 c] w (fun v w' => v = .bool (hasF s c) ∧ Sep w [] w') := by
 refine Ret.st (N := 17) Tryz.func48 fun R hR S0 => ?_
 have L48_1 : ∀ (mm_ : Nat) (i : Int) (w1 : World), (0 ≤ i) → (i ≤ (s.size : Int)) → (∀ j, j < (i).toNat → byteAt s j ≠ c) → Sep w [] w1 → ((s.size : Int) - i).toNat = mm_ → J Tryz.prog 48 17 R K48_0 [(5, iv i), (0, .string s), (1, .int .u8 c)] w1 := by
  intro mm1
  induction mm1 using Nat.strongRecOn with
  | _ mm1 ih1 =>
  intro i w1 h0 h1 hq S1 hm1
  refine J.c 8 [] [] [] 9 (i < (s.size : Int)) (fun fk1 => ?_) fun fk1 => ?_
  ·skip
   refine J.r 8 [true] [(13, iv i), (12, .string s)] [] ?_
   have := byteAt_bounds s (i).toNat
   refine J.ok (OK.byte 14 9 s i (byteAt s (i).toNat) (by kernel_rfl) (by kernel_rfl) (by omega) (by omega) (rfl)) ?_
   refine J.c 3 [] [] [] 16 ((byteAt s (i).toNat) = c) (fun fk2 => ?_) fun fk2 => ?_
   ·skip
    refine J.e 5 [.bool true] Tryz.func48 (hR _ _ ?_)
    exact ⟨congrArg Value.bool (has_yes (i := i.toNat) (by omega) (by omega)).symm, S1.nil⟩
   refine J.wi 6 [false] [] [] 11 (i + 1) ?_
   exact J.t 3 (ih1 _ (show ((s.size : Int) - (i + 1)).toNat < mm1 from by omega) (i + 1) w1 (by omega) (by omega) (dg_step (q := fun j => byteAt s j ≠ c) h0 hq (by omega)) S1 rfl)
  refine J.e 6 [.bool false] Tryz.func48 (hR _ _ ?_)
  exact ⟨congrArg Value.bool (has_no fun j hj => hq j (by omega)).symm, S1.nil⟩
 exact J.t 11 (L48_1 _ 0 w (by omega) (by omega) (by intro j hj; simp at hj) S0 rfl)

theorem hb17 : HasBody Tryz.prog 17 := fun _ _ => by kernel_rfl
def K17_0 := List.drop 1 (adv 58 [false] (bodyOf Tryz.f17))
def K17_1 := List.drop 1 (adv 35 [false, false] K17_0)
def K17_2 := List.drop 1 (adv 7 [false] K17_1)
def K17_3 := List.drop 1 (adv 7 [false] K17_2)
theorem rformed_any (i : Ins) (w : World) (hi : insQ w i) : Ret Tryz.prog 17 #[.agg (insA i)] w (fun v w' => v = .bool (formB i) ∧ Sep w [] w') := by
 refine Ret.st (N := 170) Tryz.func17 fun R hR S0 => ?_
 obtain ⟨q1, q2, q3, q4, q5, _⟩ := id hi
 have hfz := fields_size (op := i.gOp)
 refine J.nw 2 [] [] [] S0 1 (insC i) 48 fun b1 w1 S1 => ?_
 refine J.lb 6 [] [] [] S1 0 rfl 8 (iv i.gOp) ?_
 refine J.c 2 [] [] [] 10 (i.gOp < 1) (fun fk1 => ?_) fun fk1 => ?_
 ·skip
  refine J.e 40 [.bool false] Tryz.func17 (hR _ _ ?_)
  exact ⟨congrArg Value.bool (decide_eq_false (show ¬ (formP i.gOp i.gA i.gB i.gC i.gK) by omega)).symm, S1.nil⟩
 refine J.lb 1 [] [] [] S1 0 rfl 12 (iv i.gOp) ?_
 refine J.c 3 [] [] [] 15 (i.gOp > 22) (fun fk2 => ?_) fun fk2 => ?_
 ·skip
  refine J.e 35 [.bool false] Tryz.func17 (hR _ _ ?_)
  exact ⟨congrArg Value.bool (decide_eq_false (show ¬ (formP i.gOp i.gA i.gB i.gC i.gK) by omega)).symm, S1.nil⟩
 refine J.lb 1 [] [] [] S1 0 rfl 17 (iv i.gA) ?_
 refine J.c 3 [] [] [] 20 (i.gA < 0) (fun fk3 => ?_) fun fk3 => ?_
 ·skip
  refine J.e 30 [.bool false] Tryz.func17 (hR _ _ ?_)
  exact ⟨congrArg Value.bool (decide_eq_false (show ¬ (formP i.gOp i.gA i.gB i.gC i.gK) by omega)).symm, S1.nil⟩
 refine J.lb 1 [] [] [] S1 0 rfl 22 (iv i.gA) ?_
 refine J.c 3 [] [] [] 25 (i.gA > 15) (fun fk4 => ?_) fun fk4 => ?_
 ·skip
  refine J.e 25 [.bool false] Tryz.func17 (hR _ _ ?_)
  exact ⟨congrArg Value.bool (decide_eq_false (show ¬ (formP i.gOp i.gA i.gB i.gC i.gK) by omega)).symm, S1.nil⟩
 refine J.lb 1 [] [] [] S1 0 rfl 27 (iv i.gB) ?_
 refine J.c 3 [] [] [] 30 (i.gB < 0) (fun fk5 => ?_) fun fk5 => ?_
 ·skip
  refine J.e 20 [.bool false] Tryz.func17 (hR _ _ ?_)
  exact ⟨congrArg Value.bool (decide_eq_false (show ¬ (formP i.gOp i.gA i.gB i.gC i.gK) by omega)).symm, S1.nil⟩
 refine J.lb 1 [] [] [] S1 0 rfl 32 (iv i.gB) ?_
 refine J.c 3 [] [] [] 35 (i.gB > 15) (fun fk6 => ?_) fun fk6 => ?_
 ·skip
  refine J.e 15 [.bool false] Tryz.func17 (hR _ _ ?_)
  exact ⟨congrArg Value.bool (decide_eq_false (show ¬ (formP i.gOp i.gA i.gB i.gC i.gK) by omega)).symm, S1.nil⟩
 refine J.lb 1 [] [] [] S1 0 rfl 37 (iv i.gC) ?_
 refine J.c 3 [] [] [] 40 (i.gC < 0) (fun fk7 => ?_) fun fk7 => ?_
 ·skip
  refine J.e 10 [.bool false] Tryz.func17 (hR _ _ ?_)
  exact ⟨congrArg Value.bool (decide_eq_false (show ¬ (formP i.gOp i.gA i.gB i.gC i.gK) by omega)).symm, S1.nil⟩
 refine J.lb 1 [] [] [] S1 0 rfl 42 (iv i.gC) ?_
 refine J.c 3 [] [] [] 44 (i.gC > 15) (fun fk8 => ?_) fun fk8 => ?_
 ·skip
  refine J.e 5 [.bool false] Tryz.func17 (hR _ _ ?_)
  exact ⟨congrArg Value.bool (decide_eq_false (show ¬ (formP i.gOp i.gA i.gB i.gC i.gK) by omega)).symm, S1.nil⟩
 refine J.lb 5 [false] [] [] S1 0 rfl 46 (iv i.gOp) ?_
 refine J.c0 0 [] [] [] S1 47 hb47 (rfields_any i.gOp _ (by omega)) fun w2 S2 => ?_
 have := fields_size (op := i.gOp)
 have X1 : ∀ (tb : Bool) (w3 : World), ((tb = true → ¬ ((4 ≤ i.gOp ∨ i.gB = 0) ∧ (useC i.gOp ∨ i.gC = 0) ∧ (useK i.gOp ∨ i.gK = 0))) ∧ (tb = false → (4 ≤ i.gOp ∨ i.gB = 0) ∧ (useC i.gOp ∨ i.gC = 0) ∧ (useK i.gOp ∨ i.gK = 0))) → Sep w [box b1 (insC i) 48] w3 → J Tryz.prog 17 170 R K17_0 [(1, pv b1), (75, .bool tb)] w3 := by
  intro tb w3 htb S3
  refine J.b 0 [] [] [] 75 tb (fun fk9 => ?_) fun fk9 => ?_
  ·skip
   have fb1 := htb.1 fk9
   refine J.e 5 [.bool false] Tryz.func17 (hR _ _ ?_)
   exact ⟨congrArg Value.bool (decide_eq_false (show ¬ (formP i.gOp i.gA i.gB i.gC i.gK) by omega)).symm, S3.nil⟩
  have fb2 := htb.2 fk9
  refine J.lb 5 [false] [] [] S3 0 rfl 78 (iv i.gK) ?_
  refine J.h 1 [] [] [] 79 (iv (if 0 > i.gK then 0 else i.gK)) (iv (max i.gK 0)) (congrArg (Value.int .i64) (by omega)) ?_
  refine J.c0 0 [] [] [] S3 80 hb34 (rtypes_any (max i.gK 0) _ (by omega)) fun w4 S4 => ?_
  refine J.lb 12 [] [(6, iv ((max i.gK 0) % 128)), (5, iv ((max i.gK 0) / 128 % 128)), (4, iv ((max i.gK 0) / 16384))] [] S4 0 rfl 85 (iv i.gOp) ?_
  refine J.c 7 [] [] [] 86 (i.gOp = 1) (fun fk10 => ?_) fun fk10 => ?_
  ·skip
   refine J.lb 4 [true] [] [] S4 0 rfl 89 (iv i.gK) ?_
   refine J.c 2 [] [] [] 91 (i.gK ≥ (-1099511627776)) (fun fk11 => ?_) fun fk11 => ?_
   ·skip
    refine J.lb 1 [] [] [] S4 0 rfl 93 (iv i.gK) ?_
    refine J.e 4 [.bool (decide (i.gK ≤ 1099511627776))] Tryz.func17 (hR _ _ ?_)
    exact ⟨congrArg Value.bool (by show (decide (i.gK ≤ 1099511627776)) = decide (formP i.gOp i.gA i.gB i.gC i.gK); by_cases hz_ : i.gK ≤ 1099511627776; (rw [(decide_eq_true hz_)]; first | exact (decide_eq_true (by omega)).symm | exact (decide_eq_false (by omega)).symm); (rw [(decide_eq_false hz_)]; first | exact (decide_eq_false (by omega)).symm | exact (decide_eq_true (by omega)).symm)), S4.nil⟩
   refine J.e 6 [.bool false] Tryz.func17 (hR _ _ ?_)
   exact ⟨congrArg Value.bool (decide_eq_false (show ¬ (formP i.gOp i.gA i.gB i.gC i.gK) by omega)).symm, S4.nil⟩
  have X2 : ∀ (tj96 : Bool) (w5 : World), ((tj96 = true → (i.gOp = 5 ∨ i.gOp = 6 ∨ i.gOp = 7 ∨ i.gOp = 8)) ∧ (tj96 = false → ¬ (i.gOp = 5 ∨ i.gOp = 6 ∨ i.gOp = 7 ∨ i.gOp = 8))) → Sep w [box b1 (insC i) 48] w5 → J Tryz.prog 17 170 R K17_1 [(85, iv i.gOp), (6, iv ((max i.gK 0) % 128)), (5, iv ((max i.gK 0) / 128 % 128)), (4, iv ((max i.gK 0) / 16384)), (1, pv b1), (96, .bool tj96)] w5 := by
   intro tj96 w5 htj96 S5
   refine J.b 0 [] [] [] 96 tj96 (fun fk12 => ?_) fun fk12 => ?_
   ·skip
    have fb3 := htj96.1 fk12
    refine J.lb 4 [true] [] [] S5 0 rfl 102 (iv i.gK) ?_
    refine J.c 2 [] [] [] 104 (i.gK ≥ 0) (fun fk13 => ?_) fun fk13 => ?_
    ·skip
     refine J.e 5 [.bool (decide (((max i.gK 0) / 16384) < 128))] Tryz.func17 (hR _ _ ?_)
     exact ⟨congrArg Value.bool (by show (decide (((max i.gK 0) / 16384) < 128)) = decide (formP i.gOp i.gA i.gB i.gC i.gK); by_cases hz_ : ((max i.gK 0) / 16384) < 128; (rw [(decide_eq_true hz_)]; first | exact (decide_eq_true (by omega)).symm | exact (decide_eq_false (by omega)).symm); (rw [(decide_eq_false hz_)]; first | exact (decide_eq_false (by omega)).symm | exact (decide_eq_true (by omega)).symm)), S5.nil⟩
    refine J.e 5 [.bool false] Tryz.func17 (hR _ _ ?_)
    exact ⟨congrArg Value.bool (decide_eq_false (show ¬ (formP i.gOp i.gA i.gB i.gC i.gK) by omega)).symm, S5.nil⟩
   have fb4 := htj96.2 fk12
   have X3 : ∀ (tj108 : Bool) (w6 : World), ((tj108 = true → (i.gOp = 9 ∨ i.gOp = 10)) ∧ (tj108 = false → ¬ (i.gOp = 9 ∨ i.gOp = 10))) → Sep w [box b1 (insC i) 48] w6 → J Tryz.prog 17 170 R K17_2 [(85, iv i.gOp), (6, iv ((max i.gK 0) % 128)), (5, iv ((max i.gK 0) / 128 % 128)), (4, iv ((max i.gK 0) / 16384)), (1, pv b1), (108, .bool tj108)] w6 := by
    intro tj108 w6 htj108 S6
    refine J.b 0 [] [] [] 108 tj108 (fun fk14 => ?_) fun fk14 => ?_
    ·skip
     have fb5 := htj108.1 fk14
     refine J.lb 4 [true] [] [] S6 0 rfl 112 (iv i.gK) ?_
     refine J.c 2 [] [] [] 114 (i.gK ≥ 0) (fun fk15 => ?_) fun fk15 => ?_
     ·skip
      refine J.c 4 [] [] [] 118 (((max i.gK 0) / 16384) < 128) (fun fk16 => ?_) fun fk16 => ?_
      ·skip
       refine J.e 5 [.bool (((max i.gK 0) / 128 % 128) == 0)] Tryz.func17 (hR _ _ ?_)
       exact ⟨congrArg Value.bool (by show (((max i.gK 0) / 128 % 128) == 0) = decide (formP i.gOp i.gA i.gB i.gC i.gK); by_cases hz_ : ((max i.gK 0) / 128 % 128) = 0; (rw [(beq_iff_eq.2 hz_)]; first | exact (decide_eq_true (by omega)).symm | exact (decide_eq_false (by omega)).symm); (rw [(beq_eq_false_iff_ne.2 hz_)]; first | exact (decide_eq_false (by omega)).symm | exact (decide_eq_true (by omega)).symm)), S6.nil⟩
      refine J.e 5 [.bool false] Tryz.func17 (hR _ _ ?_)
      exact ⟨congrArg Value.bool (decide_eq_false (show ¬ (formP i.gOp i.gA i.gB i.gC i.gK) by omega)).symm, S6.nil⟩
     refine J.e 9 [.bool false] Tryz.func17 (hR _ _ ?_)
     exact ⟨congrArg Value.bool (decide_eq_false (show ¬ (formP i.gOp i.gA i.gB i.gC i.gK) by omega)).symm, S6.nil⟩
    have fb6 := htj108.2 fk14
    have X4 : ∀ (tj122 : Bool) (w7 : World), ((tj122 = true → (i.gOp = 13 ∨ i.gOp = 14)) ∧ (tj122 = false → ¬ (i.gOp = 13 ∨ i.gOp = 14))) → Sep w [box b1 (insC i) 48] w7 → J Tryz.prog 17 170 R K17_3 [(85, iv i.gOp), (6, iv ((max i.gK 0) % 128)), (4, iv ((max i.gK 0) / 16384)), (1, pv b1), (122, .bool tj122)] w7 := by
     intro tj122 w7 htj122 S7
     refine J.b 0 [] [] [] 122 tj122 (fun fk17 => ?_) fun fk17 => ?_
     ·skip
      have fb7 := htj122.1 fk17
      refine J.lb 4 [true] [] [] S7 0 rfl 126 (iv i.gK) ?_
      refine J.c 2 [] [] [] 128 (i.gK ≥ 0) (fun fk18 => ?_) fun fk18 => ?_
      ·skip
       refine J.c 4 [] [] [] 132 (((max i.gK 0) / 16384) < 128) (fun fk19 => ?_) fun fk19 => ?_
       ·skip
        refine J.e 5 [.bool (((max i.gK 0) % 128) == 0)] Tryz.func17 (hR _ _ ?_)
        exact ⟨congrArg Value.bool (by show (((max i.gK 0) % 128) == 0) = decide (formP i.gOp i.gA i.gB i.gC i.gK); by_cases hz_ : ((max i.gK 0) % 128) = 0; (rw [(beq_iff_eq.2 hz_)]; first | exact (decide_eq_true (by omega)).symm | exact (decide_eq_false (by omega)).symm); (rw [(beq_eq_false_iff_ne.2 hz_)]; first | exact (decide_eq_false (by omega)).symm | exact (decide_eq_true (by omega)).symm)), S7.nil⟩
       refine J.e 5 [.bool false] Tryz.func17 (hR _ _ ?_)
       exact ⟨congrArg Value.bool (decide_eq_false (show ¬ (formP i.gOp i.gA i.gB i.gC i.gK) by omega)).symm, S7.nil⟩
      refine J.e 9 [.bool false] Tryz.func17 (hR _ _ ?_)
      exact ⟨congrArg Value.bool (decide_eq_false (show ¬ (formP i.gOp i.gA i.gB i.gC i.gK) by omega)).symm, S7.nil⟩
     have fb8 := htj122.2 fk17
     refine J.c 6 [false] [] [] 136 (i.gOp = 19) (fun fk20 => ?_) fun fk20 => ?_
     ·skip
      refine J.lb 4 [true] [] [] S7 0 rfl 139 (iv i.gK) ?_
      refine J.c 2 [] [] [] 141 (i.gK ≥ 0) (fun fk21 => ?_) fun fk21 => ?_
      ·skip
       refine J.lb 1 [] [] [] S7 0 rfl 143 (iv i.gK) ?_
       refine J.e 4 [.bool (decide (i.gK ≤ 15))] Tryz.func17 (hR _ _ ?_)
       exact ⟨congrArg Value.bool (by show (decide (i.gK ≤ 15)) = decide (formP i.gOp i.gA i.gB i.gC i.gK); by_cases hz_ : i.gK ≤ 15; (rw [(decide_eq_true hz_)]; first | exact (decide_eq_true (by omega)).symm | exact (decide_eq_false (by omega)).symm); (rw [(decide_eq_false hz_)]; first | exact (decide_eq_false (by omega)).symm | exact (decide_eq_true (by omega)).symm)), S7.nil⟩
      refine J.e 6 [.bool false] Tryz.func17 (hR _ _ ?_)
      exact ⟨congrArg Value.bool (decide_eq_false (show ¬ (formP i.gOp i.gA i.gB i.gC i.gK) by omega)).symm, S7.nil⟩
     refine J.c 6 [false] [] [] 146 (i.gOp = 22) (fun fk22 => ?_) fun fk22 => ?_
     ·skip
      refine J.lb 4 [true] [] [] S7 0 rfl 149 (iv i.gK) ?_
      refine J.c 2 [] [] [] 151 (i.gK ≥ 0) (fun fk23 => ?_) fun fk23 => ?_
      ·skip
       refine J.lb 1 [] [] [] S7 0 rfl 153 (iv i.gK) ?_
       refine J.c 3 [] [] [] 156 (i.gK ≤ 32767) (fun fk24 => ?_) fun fk24 => ?_
       ·skip
        refine J.lb 1 [] [] [] S7 0 rfl 158 (iv i.gK) ?_
        refine J.h 1 [] [] [] 159 (iv (Int.tmod i.gK 32)) (iv (i.gK % 32)) (congrArg (Value.int .i64) (IntWalk.rem_in _ _ (by omega))) ?_
        refine J.e 4 [.bool (decide ((i.gK % 32) ≤ 20))] Tryz.func17 (hR _ _ ?_)
        exact ⟨congrArg Value.bool (by show (decide ((i.gK % 32) ≤ 20)) = decide (formP i.gOp i.gA i.gB i.gC i.gK); by_cases hz_ : (i.gK % 32) ≤ 20; (rw [(decide_eq_true hz_)]; first | exact (decide_eq_true (by omega)).symm | exact (decide_eq_false (by omega)).symm); (rw [(decide_eq_false hz_)]; first | exact (decide_eq_false (by omega)).symm | exact (decide_eq_true (by omega)).symm)), S7.nil⟩
       refine J.e 7 [.bool false] Tryz.func17 (hR _ _ ?_)
       exact ⟨congrArg Value.bool (decide_eq_false (show ¬ (formP i.gOp i.gA i.gB i.gC i.gK) by omega)).symm, S7.nil⟩
      refine J.e 12 [.bool false] Tryz.func17 (hR _ _ ?_)
      exact ⟨congrArg Value.bool (decide_eq_false (show ¬ (formP i.gOp i.gA i.gB i.gC i.gK) by omega)).symm, S7.nil⟩
     refine J.lb 6 [false] [] [] S7 0 rfl 163 (iv i.gK) ?_
     refine J.c 2 [] [] [] 165 (i.gK ≥ 0) (fun fk25 => ?_) fun fk25 => ?_
     ·skip
      refine J.lb 1 [] [] [] S7 0 rfl 167 (iv i.gK) ?_
      refine J.e 4 [.bool (decide (i.gK ≤ 32767))] Tryz.func17 (hR _ _ ?_)
      exact ⟨congrArg Value.bool (by show (decide (i.gK ≤ 32767)) = decide (formP i.gOp i.gA i.gB i.gC i.gK); by_cases hz_ : i.gK ≤ 32767; (rw [(decide_eq_true hz_)]; first | exact (decide_eq_true (by omega)).symm | exact (decide_eq_false (by omega)).symm); (rw [(decide_eq_false hz_)]; first | exact (decide_eq_false (by omega)).symm | exact (decide_eq_true (by omega)).symm)), S7.nil⟩
     refine J.e 6 [.bool false] Tryz.func17 (hR _ _ ?_)
     exact ⟨congrArg Value.bool (decide_eq_false (show ¬ (formP i.gOp i.gA i.gB i.gC i.gK) by omega)).symm, S7.nil⟩
    refine J.c 7 [false] [] [] 122 (i.gOp = 13) (fun fk26 => ?_) fun fk26 => ?_
    ·skip
     exact J.t 2 (X4 true w6 (⟨fun h_ => by first | (cases h_; done) | (have h2_ := of_decide_eq_true h_; omega) | (have h2_ := beq_iff_eq.1 h_; omega) | omega, fun h_ => by first | (cases h_; done) | (have h2_ := of_decide_eq_false h_; omega) | (have h2_ := beq_eq_false_iff_ne.1 h_; omega) | omega⟩) S6)
    exact J.t 5 (X4 (i.gOp == 14) w6 (⟨fun h_ => by first | (cases h_; done) | (have h2_ := of_decide_eq_true h_; omega) | (have h2_ := beq_iff_eq.1 h_; omega) | omega, fun h_ => by first | (cases h_; done) | (have h2_ := of_decide_eq_false h_; omega) | (have h2_ := beq_eq_false_iff_ne.1 h_; omega) | omega⟩) S6)
   refine J.c 7 [false] [] [] 108 (i.gOp = 9) (fun fk27 => ?_) fun fk27 => ?_
   ·skip
    exact J.t 2 (X3 true w5 (⟨fun h_ => by first | (cases h_; done) | (have h2_ := of_decide_eq_true h_; omega) | (have h2_ := beq_iff_eq.1 h_; omega) | omega, fun h_ => by first | (cases h_; done) | (have h2_ := of_decide_eq_false h_; omega) | (have h2_ := beq_eq_false_iff_ne.1 h_; omega) | omega⟩) S5)
   exact J.t 5 (X3 (i.gOp == 10) w5 (⟨fun h_ => by first | (cases h_; done) | (have h2_ := of_decide_eq_true h_; omega) | (have h2_ := beq_iff_eq.1 h_; omega) | omega, fun h_ => by first | (cases h_; done) | (have h2_ := of_decide_eq_false h_; omega) | (have h2_ := beq_eq_false_iff_ne.1 h_; omega) | omega⟩) S5)
  refine J.c 7 [false] [] [] 96 (i.gOp = 5) (fun fk28 => ?_) fun fk28 => ?_
  ·skip
   exact J.t 2 (X2 true w4 (⟨fun h_ => by first | (cases h_; done) | (have h2_ := of_decide_eq_true h_; omega) | (have h2_ := beq_iff_eq.1 h_; omega) | omega, fun h_ => by first | (cases h_; done) | (have h2_ := of_decide_eq_false h_; omega) | (have h2_ := beq_eq_false_iff_ne.1 h_; omega) | omega⟩) S4)
  refine J.c 6 [false] [] [96] 96 (i.gOp = 6) (fun fk29 => ?_) fun fk29 => ?_
  ·skip
   exact J.t 2 (X2 true w4 (⟨fun h_ => by first | (cases h_; done) | (have h2_ := of_decide_eq_true h_; omega) | (have h2_ := beq_iff_eq.1 h_; omega) | omega, fun h_ => by first | (cases h_; done) | (have h2_ := of_decide_eq_false h_; omega) | (have h2_ := beq_eq_false_iff_ne.1 h_; omega) | omega⟩) S4)
  refine J.c 6 [false] [] [96] 96 (i.gOp = 7) (fun fk30 => ?_) fun fk30 => ?_
  ·skip
   exact J.t 2 (X2 true w4 (⟨fun h_ => by first | (cases h_; done) | (have h2_ := of_decide_eq_true h_; omega) | (have h2_ := beq_iff_eq.1 h_; omega) | omega, fun h_ => by first | (cases h_; done) | (have h2_ := of_decide_eq_false h_; omega) | (have h2_ := beq_eq_false_iff_ne.1 h_; omega) | omega⟩) S4)
  exact J.t 5 (X2 (i.gOp == 8) w4 (⟨fun h_ => by first | (cases h_; done) | (have h2_ := of_decide_eq_true h_; omega) | (have h2_ := beq_iff_eq.1 h_; omega) | omega, fun h_ => by first | (cases h_; done) | (have h2_ := of_decide_eq_false h_; omega) | (have h2_ := beq_eq_false_iff_ne.1 h_; omega) | omega⟩) S4)
 refine J.c0 6 [] [(3, .string (fieldsF i.gOp))] [] S2 49 hb48 (uses_any (fieldsF i.gOp) 66 _ (by omega)) fun w8 S8 => ?_
 refine J.bn 2 [] [] [] 51 (hasF (fieldsF i.gOp) 66) (fun fk31 => ?_) fun fk31 => ?_
 ·skip
  have fb9 := (has_B (op := i.gOp) (by omega)).1 fk31
  refine J.c0 6 [] [(56, .bool false)] [] S8 58 hb48 (uses_any (fieldsF i.gOp) 67 _ (by omega)) fun w9 S9 => ?_
  refine J.bn 2 [] [] [] 60 (hasF (fieldsF i.gOp) 67) (fun fk32 => ?_) fun fk32 => ?_
  ·skip
   have fb10 := (has_C (op := i.gOp) (by omega)).1 fk32
   refine J.c0 7 [] [(66, .bool false)] [] S9 68 hb48 (uses_any (fieldsF i.gOp) 75 _ (by omega)) fun w10 S10 => ?_
   refine J.bn 2 [] [] [] 70 (hasF (fieldsF i.gOp) 75) (fun fk33 => ?_) fun fk33 => ?_
   ·skip
    have fb11 := (has_K (op := i.gOp) (by omega)).1 fk33
    exact J.t 6 (X1 false w10 (⟨fun h_ => by first | (cases h_; done) | (have h2_ := of_decide_eq_true h_; omega) | (have h2_ := bne_iff_ne.1 h_; omega) | omega, fun h_ => by first | (cases h_; done) | (have h2_ := of_decide_eq_false h_; omega) | (have h2_ := bne_eq_false_iff_eq.1 h_; omega) | omega⟩) S10)
   have fb12 := mt (has_K (op := i.gOp) (by omega)).2 (by rw [fk33]; decide)
   refine J.lb 1 [] [] [] S10 0 rfl 72 (iv i.gK) ?_
   exact J.t 4 (X1 (i.gK != 0) w10 (⟨fun h_ => by first | (cases h_; done) | (have h2_ := of_decide_eq_true h_; omega) | (have h2_ := bne_iff_ne.1 h_; omega) | omega, fun h_ => by first | (cases h_; done) | (have h2_ := of_decide_eq_false h_; omega) | (have h2_ := bne_eq_false_iff_eq.1 h_; omega) | omega⟩) S10)
  have fb13 := mt (has_C (op := i.gOp) (by omega)).2 (by rw [fk32]; decide)
  refine J.lb 1 [] [] [] S9 0 rfl 62 (iv i.gC) ?_
  refine J.cn 4 [] [] [] 66 (i.gC = 0) (fun fk34 => ?_) fun fk34 => ?_
  ·skip
   refine J.c0 1 [] [] [] S9 68 hb48 (uses_any (fieldsF i.gOp) 75 _ (by omega)) fun w11 S11 => ?_
   refine J.bn 2 [] [] [] 70 (hasF (fieldsF i.gOp) 75) (fun fk35 => ?_) fun fk35 => ?_
   ·skip
    have fb14 := (has_K (op := i.gOp) (by omega)).1 fk35
    exact J.t 6 (X1 false w11 (⟨fun h_ => by first | (cases h_; done) | (have h2_ := of_decide_eq_true h_; omega) | (have h2_ := bne_iff_ne.1 h_; omega) | omega, fun h_ => by first | (cases h_; done) | (have h2_ := of_decide_eq_false h_; omega) | (have h2_ := bne_eq_false_iff_eq.1 h_; omega) | omega⟩) S11)
   have fb15 := mt (has_K (op := i.gOp) (by omega)).2 (by rw [fk35]; decide)
   refine J.lb 1 [] [] [] S11 0 rfl 72 (iv i.gK) ?_
   exact J.t 4 (X1 (i.gK != 0) w11 (⟨fun h_ => by first | (cases h_; done) | (have h2_ := of_decide_eq_true h_; omega) | (have h2_ := bne_iff_ne.1 h_; omega) | omega, fun h_ => by first | (cases h_; done) | (have h2_ := of_decide_eq_false h_; omega) | (have h2_ := bne_eq_false_iff_eq.1 h_; omega) | omega⟩) S11)
  exact J.t 10 (X1 true w9 (⟨fun h_ => by first | (cases h_; done) | (have h2_ := of_decide_eq_true h_; omega) | (have h2_ := bne_iff_ne.1 h_; omega) | omega, fun h_ => by first | (cases h_; done) | (have h2_ := of_decide_eq_false h_; omega) | (have h2_ := bne_eq_false_iff_eq.1 h_; omega) | omega⟩) S9)
 have fb16 := mt (has_B (op := i.gOp) (by omega)).2 (by rw [fk31]; decide)
 refine J.lb 1 [] [] [] S8 0 rfl 53 (iv i.gB) ?_
 refine J.cn 3 [] [] [] 56 (i.gB = 0) (fun fk36 => ?_) fun fk36 => ?_
 ·skip
  refine J.c0 1 [] [] [] S8 58 hb48 (uses_any (fieldsF i.gOp) 67 _ (by omega)) fun w12 S12 => ?_
  refine J.bn 2 [] [] [] 60 (hasF (fieldsF i.gOp) 67) (fun fk37 => ?_) fun fk37 => ?_
  ·skip
   have fb17 := (has_C (op := i.gOp) (by omega)).1 fk37
   refine J.c0 7 [] [(66, .bool false)] [] S12 68 hb48 (uses_any (fieldsF i.gOp) 75 _ (by omega)) fun w13 S13 => ?_
   refine J.bn 2 [] [] [] 70 (hasF (fieldsF i.gOp) 75) (fun fk38 => ?_) fun fk38 => ?_
   ·skip
    have fb18 := (has_K (op := i.gOp) (by omega)).1 fk38
    exact J.t 6 (X1 false w13 (⟨fun h_ => by first | (cases h_; done) | (have h2_ := of_decide_eq_true h_; omega) | (have h2_ := bne_iff_ne.1 h_; omega) | omega, fun h_ => by first | (cases h_; done) | (have h2_ := of_decide_eq_false h_; omega) | (have h2_ := bne_eq_false_iff_eq.1 h_; omega) | omega⟩) S13)
   have fb19 := mt (has_K (op := i.gOp) (by omega)).2 (by rw [fk38]; decide)
   refine J.lb 1 [] [] [] S13 0 rfl 72 (iv i.gK) ?_
   exact J.t 4 (X1 (i.gK != 0) w13 (⟨fun h_ => by first | (cases h_; done) | (have h2_ := of_decide_eq_true h_; omega) | (have h2_ := bne_iff_ne.1 h_; omega) | omega, fun h_ => by first | (cases h_; done) | (have h2_ := of_decide_eq_false h_; omega) | (have h2_ := bne_eq_false_iff_eq.1 h_; omega) | omega⟩) S13)
  have fb20 := mt (has_C (op := i.gOp) (by omega)).2 (by rw [fk37]; decide)
  refine J.lb 1 [] [] [] S12 0 rfl 62 (iv i.gC) ?_
  refine J.cn 4 [] [] [] 66 (i.gC = 0) (fun fk39 => ?_) fun fk39 => ?_
  ·skip
   refine J.c0 1 [] [] [] S12 68 hb48 (uses_any (fieldsF i.gOp) 75 _ (by omega)) fun w14 S14 => ?_
   refine J.bn 2 [] [] [] 70 (hasF (fieldsF i.gOp) 75) (fun fk40 => ?_) fun fk40 => ?_
   ·skip
    have fb21 := (has_K (op := i.gOp) (by omega)).1 fk40
    exact J.t 6 (X1 false w14 (⟨fun h_ => by first | (cases h_; done) | (have h2_ := of_decide_eq_true h_; omega) | (have h2_ := bne_iff_ne.1 h_; omega) | omega, fun h_ => by first | (cases h_; done) | (have h2_ := of_decide_eq_false h_; omega) | (have h2_ := bne_eq_false_iff_eq.1 h_; omega) | omega⟩) S14)
   have fb22 := mt (has_K (op := i.gOp) (by omega)).2 (by rw [fk40]; decide)
   refine J.lb 1 [] [] [] S14 0 rfl 72 (iv i.gK) ?_
   exact J.t 4 (X1 (i.gK != 0) w14 (⟨fun h_ => by first | (cases h_; done) | (have h2_ := of_decide_eq_true h_; omega) | (have h2_ := bne_iff_ne.1 h_; omega) | omega, fun h_ => by first | (cases h_; done) | (have h2_ := of_decide_eq_false h_; omega) | (have h2_ := bne_eq_false_iff_eq.1 h_; omega) | omega⟩) S14)
  exact J.t 10 (X1 true w12 (⟨fun h_ => by first | (cases h_; done) | (have h2_ := of_decide_eq_true h_; omega) | (have h2_ := bne_iff_ne.1 h_; omega) | omega, fun h_ => by first | (cases h_; done) | (have h2_ := of_decide_eq_false h_; omega) | (have h2_ := bne_eq_false_iff_eq.1 h_; omega) | omega⟩) S12)
 exact J.t 20 (X1 true w8 (⟨fun h_ => by first | (cases h_; done) | (have h2_ := of_decide_eq_true h_; omega) | (have h2_ := bne_iff_ne.1 h_; omega) | omega, fun h_ => by first | (cases h_; done) | (have h2_ := of_decide_eq_false h_; omega) | (have h2_ := bne_eq_false_iff_eq.1 h_; omega) | omega⟩) S8)

end
end Go.Proofs.YtaoolgcddapegaaGreatDoor

