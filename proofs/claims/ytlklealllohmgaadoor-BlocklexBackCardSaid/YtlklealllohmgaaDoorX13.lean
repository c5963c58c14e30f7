/- Walks of functions of this seat, printed by a program over the engine. Conditions: as each theorem says. -/
import Derived.Test.YtlklealllohmgaaDoorX12
import Derived.Test.YtlklealllohmgaaDoorEng13
namespace Go.Proofs.YtlklealllohmgaaDoor
open Go.Eng Go.RowKit
set_option linter.unusedSimpArgs false
set_option linter.unusedVariables false
theorem hb50 : HasBody Tryd.prog 50 := fun _ _ => by kernel_rfl
noncomputable def K50_0 : List Item := adv 5 [] (bodyOf Tryd.f50)
noncomputable def K50_1 : List Item := adv 6 [true] (popK K50_0)
noncomputable def K50_2 : List Item := adv 2 [] (popK (popK (popK K50_1)))
noncomputable def K50_3 : List Item := adv 1 [] (popK K50_2)
set_option maxRecDepth 20000 in
set_option maxHeartbeats 20000000 in
theorem cc_nil (b : Nat) (a : Option Addr) (n c : Nat) (w0 : World) (L0 : List Eng.Claim) (w : World) (S0 : Sep w0 (box b [.pointer none, .slice a n c] 49 :: L0) w) : Ret Tryd.prog 50 #[.pointer (some ⟨b, 0, none⟩)] w (fun v w' => v = .tuple #[] ∧ Sep w0 (box b [.pointer (some ⟨b, 0, none⟩), .slice a n c] 49 :: L0) w') := by
  refine Ret.named fun R hR => ?_
  refine Ret.of_J (N := 20) [(0, .pointer (some ⟨b, 0, none⟩))] Tryd.func50 rfl rfl (Nat.le_of_ble_eq_true (by kernel_rfl)) (by kernel_rfl) ?_
  refine J.run 5 K50_0 [(4, .pointer (some ⟨b, 0, none⟩)), (0, .pointer (some ⟨b, 0, none⟩))] w (by kernel_rfl) ?_
  refine J.ok (OK.ldBox S0 0 5 46 0 (.pointer none) (by kernel_rfl) rfl (by kernel_rfl)) ?_
  refine J.run 6 K50_1 [(8, .pointer (some ⟨b, 0, none⟩)), (7, .pointer (some ⟨b, 0, none⟩))] w (by kernel_rfl) ?_
  refine J.ok (OK.toUnsafe S0 0 9 46 78 49 rfl (by kernel_rfl) (by kernel_rfl) (by kernel_rfl) (by kernel_rfl) (Nat.succ_pos _)) ?_
  refine J.ok (OK.run 10 (.pointer (some ⟨b, 0, none⟩)) (by kernel_rfl)) ?_
  refine J.ok (OK.fromUnsafe S0 0 11 78 46 49 rfl (by kernel_rfl) (by kernel_rfl) (by kernel_rfl) (by kernel_rfl) (by kernel_rfl)) ?_
  refine J.run 2 K50_2 [(13, .pointer (some ⟨b, 0, none⟩)), (11, .pointer (some ⟨b, 0, none⟩))] w (by kernel_rfl) ?_
  refine J.stBox S0 0 46 0 (.pointer (some ⟨b, 0, none⟩)) [.pointer (some ⟨b, 0, none⟩), .slice a n c] (box b [.pointer (some ⟨b, 0, none⟩), .slice a n c] 49 :: L0) (by kernel_rfl) rfl (by kernel_rfl) (by kernel_rfl) rfl ?_
  intro w1 S1
  refine J.run 1 K50_3 [] w1 (by kernel_rfl) ?_
  refine J.done Tryd.f50 [] Tryd.func50 trivial ?_
  refine hR _ _ ?_
  exact ⟨rfl, S1⟩

noncomputable def K50a_0 : List Item := adv 5 [] (bodyOf Tryd.f50)
noncomputable def K50a_1 : List Item := adv 8 [false] (popK K50a_0)
noncomputable def K50a_2 : List Item := adv 1 [] (popK K50a_1)
noncomputable def K50a_3 : List Item := adv 3 [false] (popK K50a_2)
set_option maxRecDepth 20000 in
set_option maxHeartbeats 20000000 in
theorem cc_self (b : Nat) (a : Option Addr) (n c : Nat) (w0 : World) (L0 : List Eng.Claim) (w : World) (S0 : Sep w0 (box b [.pointer (some ⟨b, 0, none⟩), .slice a n c] 49 :: L0) w) : Ret Tryd.prog 50 #[.pointer (some ⟨b, 0, none⟩)] w (fun v w' => v = .tuple #[] ∧ Sep w0 (box b [.pointer (some ⟨b, 0, none⟩), .slice a n c] 49 :: L0) w') := by
  refine Ret.named fun R hR => ?_
  refine Ret.of_J (N := 20) [(0, .pointer (some ⟨b, 0, none⟩))] Tryd.func50 rfl rfl (Nat.le_of_ble_eq_true (by kernel_rfl)) (by kernel_rfl) ?_
  refine J.run 5 K50a_0 [(4, .pointer (some ⟨b, 0, none⟩)), (0, .pointer (some ⟨b, 0, none⟩))] w (by kernel_rfl) ?_
  refine J.ok (OK.ldBox S0 0 5 46 0 (.pointer (some ⟨b, 0, none⟩)) (by kernel_rfl) rfl (by kernel_rfl)) ?_
  refine J.run 8 K50a_1 [(16, .pointer (some ⟨b, 0, none⟩)), (0, .pointer (some ⟨b, 0, none⟩))] w (by kernel_rfl) ?_
  refine J.ok (OK.ldBox S0 0 17 46 0 (.pointer (some ⟨b, 0, none⟩)) (by kernel_rfl) rfl (by kernel_rfl)) ?_
  refine J.run 1 K50a_2 [(18, .pointer (some ⟨b, 0, none⟩)), (17, .pointer (some ⟨b, 0, none⟩))] w (by kernel_rfl) ?_
  refine J.ok (OK.neqSame 19 46 49 ⟨b, 0, none⟩ (by kernel_rfl) (by kernel_rfl) (by kernel_rfl) (by kernel_rfl)) ?_
  refine J.run 3 K50a_3 [] w (by kernel_rfl) ?_
  refine J.done Tryd.f50 [] Tryd.func50 trivial ?_
  refine hR _ _ ?_
  exact ⟨rfl, S0⟩

theorem copycheck_any (b : Nat) (p : Option Addr) (a : Option Addr) (n c : Nat) (w0 : World) (L0 : List Eng.Claim) (w : World) (S0 : Sep w0 (box b [.pointer p, .slice a n c] 49 :: L0) w) (hp : p = none ∨ p = some ⟨b, 0, none⟩) : Ret Tryd.prog 50 #[.pointer (some ⟨b, 0, none⟩)] w (fun v w' => v = .tuple #[] ∧ Sep w0 (box b [.pointer (some ⟨b, 0, none⟩), .slice a n c] 49 :: L0) w') := by
  rcases hp with rfl | rfl
  · exact cc_nil b a n c w0 L0 w S0
  · exact cc_self b a n c w0 L0 w S0
theorem hb23 : HasBody Tryd.prog 23 := fun _ _ => by kernel_rfl
noncomputable def K23_0 : List Item := adv 8 [] (bodyOf Tryd.f23)
noncomputable def K23_1 : List Item := adv 7 [] (popK K23_0)
noncomputable def K23_2 : List Item := adv 1 [] (popK K23_1)
noncomputable def K23_3 : List Item := adv 2 [] (popK K23_2)
noncomputable def K23_4 : List Item := adv 8 [] (popK K23_3)
set_option maxRecDepth 20000 in
set_option maxHeartbeats 20000000 in
theorem bwrite_any (b : Nat) (p : Option Addr) (a : Option Addr) (c : Nat) (x s : ByteArray) (w0 : World) (L0 : List Eng.Claim) (w : World) (S0 : Sep w0 (box b [.pointer p, .slice a ((ls x).length) c] 49 :: rowOf enc8 a c 5 1 (ls x) :: L0) w) (hp : p = none ∨ p = some ⟨b, 0, none⟩) (hx : x.size + s.size ≤ 140737488355328) : Ret Tryd.prog 23 #[.pointer (some ⟨b, 0, none⟩), .string s] w (fun v w' => v = .tuple #[.int .i64 (s.size : Int), .nilIface] ∧ ∃ a' c', Sep w0 (box b [.pointer (some ⟨b, 0, none⟩), .slice a' (ls (x ++ s)).length c'] 49 :: rowOf enc8 a' c' 5 1 (ls (x ++ s)) :: L0) w') := by
  refine Ret.named fun R hR => ?_
  refine Ret.of_J (N := 19) [(0, .pointer (some ⟨b, 0, none⟩)), (1, .string s)] Tryd.func23 rfl rfl (Nat.le_of_ble_eq_true (by kernel_rfl)) (by kernel_rfl) ?_
  have hlx := ls_length x
  refine J.run 8 K23_0 [(6, .pointer (some ⟨b, 0, none⟩)), (0, .pointer (some ⟨b, 0, none⟩)), (1, .string s)] w (by kernel_rfl) ?_
  have S1 : Sep w0 (box b [.pointer p, .slice a ((ls x).length) c] 49 :: rowOf enc8 a c 5 1 (ls x) :: L0) w := S0.front 0 rfl
  refine J.callF 7 50 #[.pointer (some ⟨b, 0, none⟩)] hb50 (by kernel_rfl) (copycheck_any b p a ((ls x).length) c _ _ _ S1 (by first | assumption | exact .inl rfl | exact .inr rfl)) ?_
  rintro _ w1 ⟨rfl, S2⟩
  replace S2 : Sep w0 (box b [.pointer (some ⟨b, 0, none⟩), .slice a ((ls x).length) c] 49 :: rowOf enc8 a c 5 1 (ls x) :: L0) w1 := S2
  refine J.run 7 K23_1 [(11, .pointer (some ⟨b, 1, none⟩)), (8, .pointer (some ⟨b, 0, none⟩)), (1, .string s)] w1 (by kernel_rfl) ?_
  refine J.ok (OK.ldBox S2 0 12 47 1 (.slice a ((ls x).length) c) (by kernel_rfl) rfl (by kernel_rfl)) ?_
  refine J.run 1 K23_2 [(13, .string s), (12, .slice a ((ls x).length) c), (8, .pointer (some ⟨b, 0, none⟩)), (1, .string s)] w1 (by kernel_rfl) ?_
  refine J.appStr S2 1 x s 14 47 9 rfl (by kernel_rfl) (by kernel_rfl) (by kernel_rfl) (by rfl) (by first | omega | (simp only [ByteArray.size_append]; omega) | (simp only [ByteArray.size_append, lit_size, List.size_toArray, List.length_cons, List.length_nil]; omega) | (simp; omega)) ?_
  intro ra1 rc1 w2 S3
  replace S3 : Sep w0 (box b [.pointer (some ⟨b, 0, none⟩), .slice a ((ls x).length) c] 49 :: rowOf enc8 ra1 rc1 5 1 (ls (x ++ s)) :: L0) w2 := S3
  refine J.run 2 K23_3 [(16, .pointer (some ⟨b, 1, none⟩)), (14, .slice ra1 ((ls (x ++ s)).length) rc1), (1, .string s)] w2 (by kernel_rfl) ?_
  refine J.stBox S3 0 47 1 (.slice ra1 ((ls (x ++ s)).length) rc1) [.pointer (some ⟨b, 0, none⟩), .slice ra1 ((ls (x ++ s)).length) rc1] (box b [.pointer (some ⟨b, 0, none⟩), .slice ra1 ((ls (x ++ s)).length) rc1] 49 :: rowOf enc8 ra1 rc1 5 1 (ls (x ++ s)) :: L0) (by kernel_rfl) rfl (by kernel_rfl) (by kernel_rfl) rfl ?_
  intro w3 S4
  refine J.run 8 K23_4 [(5, .nilIface), (4, .int .i64 (s.size : Int))] w3 (by kernel_rfl) ?_
  refine J.ret Tryd.f23 [.int .i64 (s.size : Int), .nilIface] Tryd.func23 ⟨by kernel_rfl, by kernel_rfl, trivial⟩ ?_
  refine hR _ _ ?_
  exact ⟨rfl, _, _, S4⟩

theorem hb22 : HasBody Tryd.prog 22 := fun _ _ => by kernel_rfl
noncomputable def K22_0 : List Item := adv 9 [] (bodyOf Tryd.f22)
noncomputable def K22_1 : List Item := adv 3 [] (popK K22_0)
set_option maxRecDepth 20000 in
set_option maxHeartbeats 20000000 in
theorem blen_any (b : Nat) (p : Option Addr) (a : Option Addr) (c : Nat) (x : ByteArray) (w0 : World) (L0 : List Eng.Claim) (w : World) (S0 : Sep w0 (box b [.pointer p, .slice a ((ls x).length) c] 49 :: rowOf enc8 a c 5 1 (ls x) :: L0) w) (hx : x.size ≤ 9223372036854775807) : Ret Tryd.prog 22 #[.pointer (some ⟨b, 0, none⟩)] w (fun v w' => v = .int .i64 (x.size : Int) ∧ Sep w0 (box b [.pointer p, .slice a (ls x).length c] 49 :: rowOf enc8 a c 5 1 (ls x) :: L0) w') := by
  refine Ret.named fun R hR => ?_
  refine Ret.of_J (N := 8) [(0, .pointer (some ⟨b, 0, none⟩))] Tryd.func22 rfl rfl (Nat.le_of_ble_eq_true (by kernel_rfl)) (by kernel_rfl) ?_
  have hlx := ls_length x
  refine J.run 9 K22_0 [(5, .pointer (some ⟨b, 1, none⟩))] w (by kernel_rfl) ?_
  refine J.ok (OK.ldBox S0 0 6 47 1 (.slice a ((ls x).length) c) (by kernel_rfl) rfl (by kernel_rfl)) ?_
  refine J.run 3 K22_1 [(2, .int .i64 ((ls x).length : Int))] w (by kernel_rfl) ?_
  refine J.ret Tryd.f22 [.int .i64 ((ls x).length : Int)] Tryd.func22 ⟨by kernel_rfl, trivial⟩ ?_
  refine hR _ _ ?_
  exact ⟨by rw [ls_length]; rfl, S0⟩

theorem hb24 : HasBody Tryd.prog 24 := fun _ _ => by kernel_rfl
theorem bstring_any (b : Nat) (p : Option Addr) (a : Option Addr) (c : Nat) (x : ByteArray) (w0 : World) (L0 : List Eng.Claim) (w : World) (S0 : Sep w0 (box b [.pointer p, .slice a (ls x).length c] 49 :: rowOf enc8 a c 5 1 (ls x) :: L0) w) (hp : p = none ∨ p = some ⟨b, 0, none⟩) (ho : Offs 5 L0) : Ret Tryd.prog 24 #[.pointer (some ⟨b, 0, none⟩)] w (fun v w' => v = .string x ∧ Sep w0 L0 w') :=
  Ret.of_calls (Tryd.Builder_String_any_k w0.heap.size b (ls x) w (S0.builder hp) S0.below.size) fun w' h => ⟨congrArg Value.string (ls_inj (ls_mk _)), S0.others rfl ho h.2.1 h.2.2⟩
/-! the text that is made of the tokens -/
def blkL (k : Nat) : ByteArray := ([(⟨#[32]⟩ : ByteArray), ⟨#[9, 32]⟩, ⟨#[32, 32, 32]⟩] : List ByteArray).getD k ByteArray.empty
def endL (k : Nat) : ByteArray := ([(⟨#[10]⟩ : ByteArray), ⟨#[35, 32, 97, 32, 99, 111, 109, 109, 101, 110, 116, 10, 10]⟩, ⟨#[32, 35, 10, 32, 32, 10]⟩] : List ByteArray).getD k ByteArray.empty
def stepB (k : Nat) (t : ByteArray) (x : Tk) : ByteArray := (t ++ blkL k) ++ (if x.gKind = 4 then endL k else x.gText)
def backB (k : Nat) (l : List Tk) : ByteArray := l.foldl (stepB k) ByteArray.empty
theorem backB_snoc (k : Nat) (l : List Tk) (x : Tk) : backB k (l ++ [x]) = stepB k (backB k l) x := by unfold backB; rw [List.foldl_append]; rfl
def HB (z : List UInt8) : Prop := z = [] ∨ ∃ c r, z = c :: r ∧ (c = 32 ∨ c = 9)
theorem run_take {p : Int → Bool} (h32 : p 32 = false) (h9 : p 9 = false) {z : List UInt8} (hz : HB z) : ∀ l, runL p (l.take (runL p l) ++ z) = runL p l
  | [] => by
    rcases hz with rfl | ⟨c, r, rfl, rfl | rfl⟩
    · rfl
    · show (if p 32 = true then _ else 0) = 0; rw [h32]; rfl
    · show (if p 9 = true then _ else 0) = 0; rw [h9]; rfl
  | c :: l => by
    by_cases hc : p (b2 c) = true
    · have e : runL p (c :: l) = runL p l + 1 := by rw [runL, if_pos hc]
      rw [e, List.take_succ_cons, List.cons_append, runL, if_pos hc, run_take h32 h9 hz l]
    · have e : runL p (c :: l) = 0 := by rw [runL, if_neg hc]
      rw [e, List.take_zero, List.nil_append]
      rcases hz with rfl | ⟨c, r, rfl, rfl | rfl⟩
      · rfl
      · show (if p 32 = true then _ else 0) = 0; rw [h32]; rfl
      · show (if p 9 = true then _ else 0) = 0; rw [h9]; rfl
theorem nextB_blank {z : List UInt8} (hz : HB z) : nextB z = false := by
  rcases hz with rfl | ⟨c, r, rfl, rfl | rfl⟩ <;> rfl
theorem tok_again {c : UInt8} {r : List UInt8} {z : List UInt8} (hz : HB z) (he : (tokAt (c :: r)).2.2 = 0) (hk : 0 < (tokAt (c :: r)).1) : tokAt ((c :: r).take (tokAt (c :: r)).2.1 ++ z) = tokAt (c :: r) := by
  by_cases hb : b2 c = 32 ∨ b2 c = 9
  · rw [tok_blank hb] at hk; exact absurd hk (by decide)
  · cases hl : letB (b2 c) with
    | true =>
      have h1 := tok_word hb hl (r := r)
      by_cases h24 : 24 < runL innB (c :: r)
      · rw [h1, if_pos h24] at he; exact absurd he (by decide)
      · rw [if_neg h24] at h1
        rw [h1]
        have hn : runL innB (c :: r) = runL innB r + 1 := by rw [runL, if_pos (innB_let hl)]
        have ht := run_take (p := innB) rfl rfl hz (c :: r)
        rw [hn, List.take_succ_cons, List.cons_append] at ht ⊢
        rw [tok_word hb hl, ht, if_neg (by omega)]
    | false =>
      cases hn : numB (c :: r) with
      | true =>
        have h1 := tok_num hb hl hn
        have hn2 : numB (c :: (r.take (runL digB r) ++ z)) = true := by
          unfold numB at hn ⊢
          simp only [Bool.or_eq_true, Bool.and_eq_true] at hn ⊢
          rcases hn with h | ⟨h45, h⟩
          · exact .inl h
          · refine .inr ⟨h45, ?_⟩
            cases r with
            | nil => simp at h
            | cons d t =>
              have h : digB (b2 d) = true := h
              rw [runL, if_pos h, List.take_succ_cons, List.cons_append]; exact h
        have ht := run_take (p := digB) rfl rfl hz r
        have e1 : (c :: r).take (1 + runL digB r) = c :: r.take (runL digB r) := by rw [Nat.add_comm, List.take_succ_cons]
        have hlen : (c :: r.take (runL digB r)).length = 1 + runL digB r := by rw [List.length_cons, List.length_take]; have := runL_le digB r; omega
        have key : tokAt (c :: (r.take (runL digB r) ++ z)) = if nextB z || !canL (c :: r.take (runL digB r)) then (0, 0, 3) else if greatL (c :: r.take (runL digB r)) then (0, 0, 9) else (2, 1 + runL digB r, 0) := by
          rw [tok_num hb hl hn2, ht]
          have d1 : (c :: (r.take (runL digB r) ++ z)).drop (1 + runL digB r) = z := by
            rw [← List.cons_append, ← hlen, List.drop_left]
          have d2 : (c :: (r.take (runL digB r) ++ z)).take (1 + runL digB r) = c :: r.take (runL digB r) := by
            rw [← List.cons_append, ← hlen, List.take_left]
          rw [d1, d2]
        rw [e1] at h1
        by_cases h3 : (nextB ((c :: r).drop (1 + runL digB r)) || !canL (c :: r.take (runL digB r))) = true
        · rw [h1, if_pos h3] at he; exact absurd he (by decide)
        · rw [if_neg h3] at h1
          by_cases h4 : greatL (c :: r.take (runL digB r)) = true
          · rw [h1, if_pos h4] at he; exact absurd he (by decide)
          · rw [if_neg h4] at h1
            rw [h1]
            show tokAt ((c :: r).take (1 + runL digB r) ++ z) = _
            rw [e1, List.cons_append, key, nextB_blank hz, if_neg h4]
            have h5 : canL (c :: r.take (runL digB r)) = true := by
              cases hc : canL (c :: r.take (runL digB r)) with
              | true => rfl
              | false => rw [hc] at h3; simp at h3
            rw [h5]; rfl
      | false =>
        have h1 := tok_sym hb hl hn
        by_cases hs : symB (b2 c) = true
        · rw [if_pos hs] at h1
          rw [h1]
          show tokAt (c :: z) = _
          have hn2 : numB (c :: z) = false := by
            unfold numB at hn ⊢
            simp only [Bool.or_eq_false_iff, Bool.and_eq_false_iff] at hn ⊢
            refine ⟨hn.1, .inr ?_⟩
            rcases hz with rfl | ⟨c, r, rfl, rfl | rfl⟩ <;> rfl
          rw [tok_sym hb hl hn2, if_pos hs]
        · rw [h1, if_neg hs] at he; exact absurd he (by decide)
theorem gT_blank {c : UInt8} (hc : c = 32 ∨ c = 9) (r : List UInt8) (ln col : Int) (sm : Bool) (out : List Tk) : gT (c :: r) ln col sm false out = gT r ln (col + 1) sm false out := by
  have hb : b2 c = 32 ∨ b2 c = 9 := by rcases hc with rfl | rfl; exact .inl rfl; exact .inr rfl
  have ht := tok_blank hb (r := r)
  rw [gT_tok r ln col sm out (by omega) (by omega) (by rw [ht]), ht]
  show gT r ln (col + 1) (sm || false) false (addT (0, 1, 0) (c :: r) ln col out) = _
  rw [Bool.or_false]; rfl
theorem gT_blanks : ∀ (b : List UInt8) (_ : ∀ c ∈ b, c = 32 ∨ c = 9) (r : List UInt8) (ln col : Int) (sm : Bool) (out : List Tk), ∃ col', gT (b ++ r) ln col sm false out = gT r ln col' sm false out
  | [], _, r, ln, col, sm, out => ⟨col, rfl⟩
  | c :: b, h, r, ln, col, sm, out => by
    obtain ⟨col', e⟩ := gT_blanks b (fun x hx => h x (by simp [hx])) r ln (col + 1) sm out
    exact ⟨col', by rw [List.cons_append, gT_blank (h c (by simp)), e]⟩
theorem gT_comments : ∀ (b : List UInt8) (_ : ∀ c ∈ b, b2 c ≠ 10 ∧ badC (b2 c) = false) (r : List UInt8) (ln col : Int) (sm : Bool) (out : List Tk), ∃ col', gT (b ++ r) ln col sm true out = gT r ln col' sm true out
  | [], _, r, ln, col, sm, out => ⟨col, rfl⟩
  | c :: b, h, r, ln, col, sm, out => by
    obtain ⟨col', e⟩ := gT_comments b (fun x hx => h x (by simp [hx])) r ln (col + 1) sm out
    exact ⟨col', by rw [List.cons_append, gT_comment _ _ _ _ _ (h c (by simp)).1 (h c (by simp)).2, e]⟩
theorem blk_blank {k : Nat} (hk : k < 3) : (∀ c ∈ ls (blkL k), c = 32 ∨ c = 9) ∧ (∃ c r, ls (blkL k) = c :: r ∧ (c = 32 ∨ c = 9)) ∧ (blkL k).size ≤ 3 ∧ (blkL k).size + (endL k).size ≤ 16 := by
  have h : k = 0 ∨ k = 1 ∨ k = 2 := by omega
  rcases h with rfl | rfl | rfl
  · exact ⟨by intro c hc; have : c ∈ ([32] : List UInt8) := hc; simp at this; exact .inl this, ⟨32, [], rfl, .inl rfl⟩, by decide, by decide⟩
  · exact ⟨by intro c hc; have : c ∈ ([9, 32] : List UInt8) := hc; simp at this; exact this.symm, ⟨9, [32], rfl, .inr rfl⟩, by decide, by decide⟩
  · exact ⟨by intro c hc; have : c ∈ ([32, 32, 32] : List UInt8) := hc; simp at this; exact .inl this, ⟨32, [32, 32], rfl, .inl rfl⟩, by decide, by decide⟩
theorem gT_end {k : Nat} (hk : k < 3) (z : List UInt8) (ln col : Int) (out : List Tk) : ∃ ln' col' col2, gT (ls (endL k) ++ z) ln col true false out = gT z ln' col' false false (out ++ [⟨4, ByteArray.empty, ln, col2⟩]) := by
  have h : k = 0 ∨ k = 1 ∨ k = 2 := by omega
  rcases h with rfl | rfl | rfl
  · exact ⟨_, _, _, gT_line z ln col true false out⟩
  · obtain ⟨c1, e⟩ := gT_comments [32, 97, 32, 99, 111, 109, 109, 101, 110, 116] (by decide) (10 :: 10 :: z) ln (col + 1) true out
    refine ⟨ln + 1 + 1, 1, c1, ?_⟩
    show gT (35 :: ([32, 97, 32, 99, 111, 109, 109, 101, 110, 116] ++ (10 :: 10 :: z))) ln col true false out = _
    rw [gT_hash _ _ _ _ _ (by decide), e, gT_line, gT_line]; rfl
  · refine ⟨ln + 1 + 1, 1, col + 1 + 1, ?_⟩
    show gT (32 :: 35 :: 10 :: 32 :: 32 :: 10 :: z) ln col true false out = _
    rw [gT_blank (.inl rfl), gT_hash _ _ _ _ _ (by decide), gT_line, gT_blank (.inl rfl), gT_blank (.inl rfl), gT_line]; rfl
def shape (l : List Tk) : List (Int × List UInt8) := l.map fun x => (x.gKind, ls x.gText)
def INV (k : Nat) (sm : Bool) (out : List Tk) : Prop := ∀ z, HB z → ∃ ln col out', shape out' = shape out ∧ gT (ls (backB k out) ++ z) 1 1 false false [] = gT z ln col sm false out'
theorem hb_blk {k : Nat} (hk : k < 3) (y : List UInt8) : HB (ls (blkL k) ++ y) := by
  obtain ⟨_, ⟨c, r, h, hc⟩, _⟩ := blk_blank hk
  exact .inr ⟨c, r ++ y, by rw [h]; rfl, hc⟩
theorem inv_end {k : Nat} (hk : k < 3) {sm : Bool} {out : List Tk} (h : INV k sm out) (ln col : Int) : INV k false (endT sm ln col out) := by
  cases sm with
  | false => exact h
  | true =>
    intro z hz
    show ∃ ln' col' out', shape out' = shape (out ++ [⟨4, ByteArray.empty, ln, col⟩]) ∧ gT (ls (backB k (out ++ [⟨4, ByteArray.empty, ln, col⟩])) ++ z) 1 1 false false [] = gT z ln' col' false false out'
    obtain ⟨ln1, col1, out1, hs, e⟩ := h (ls (blkL k) ++ (ls (endL k) ++ z)) (hb_blk hk _)
    obtain ⟨col2, e2⟩ := gT_blanks _ (blk_blank hk).1 (ls (endL k) ++ z) ln1 col1 true out1
    obtain ⟨ln3, col3, col4, e3⟩ := gT_end hk z ln1 col2 out1
    refine ⟨ln3, col3, out1 ++ [⟨4, ByteArray.empty, ln1, col4⟩], ?_, ?_⟩
    · unfold shape at hs ⊢; rw [List.map_append, List.map_append, hs]; rfl
    · rw [backB_snoc]
      have e0 : ls (stepB k (backB k out) (⟨4, ByteArray.empty, ln, col⟩ : Tk)) = ls (backB k out) ++ (ls (blkL k) ++ ls (endL k)) := by
        show ls ((backB k out ++ blkL k) ++ endL k) = _
        rw [ls_append, ls_append, List.append_assoc]
      rw [e0, List.append_assoc, List.append_assoc, e, e2, e3]
theorem inv_tok {k : Nat} (hk : k < 3) {sm : Bool} {out : List Tk} (h : INV k sm out) {c : UInt8} {r : List UInt8} (h10 : b2 c ≠ 10) (h35 : b2 c ≠ 35) (he : (tokAt (c :: r)).2.2 = 0) (hp : 0 < (tokAt (c :: r)).1) (h4 : (tokAt (c :: r)).1 ≤ 3) (ln col : Int) :
    INV k true (addT (tokAt (c :: r)) (c :: r) ln col out) := by
  intro z hz
  have hl := tok_len he
  unfold addT
  rw [if_pos hp]
  have htx : ls (⟨((c :: r).take (tokAt (c :: r)).2.1).toArray⟩ : ByteArray) = (c :: r).take (tokAt (c :: r)).2.1 := ls_mk _
  obtain ⟨ln1, col1, out1, hs, e⟩ := h (ls (blkL k) ++ ((c :: r).take (tokAt (c :: r)).2.1 ++ z)) (hb_blk hk _)
  obtain ⟨col2, e2⟩ := gT_blanks _ (blk_blank hk).1 ((c :: r).take (tokAt (c :: r)).2.1 ++ z) ln1 col1 sm out1
  have hta := tok_again hz he hp
  have hlt : ((c :: r).take (tokAt (c :: r)).2.1).length = (tokAt (c :: r)).2.1 := by rw [List.length_take]; omega
  have e3 : gT ((c :: r).take (tokAt (c :: r)).2.1 ++ z) ln1 col2 sm false out1 = gT z ln1 (col2 + (tokAt (c :: r)).2.1) true false (out1 ++ [⟨(tokAt (c :: r)).1, ⟨((c :: r).take (tokAt (c :: r)).2.1).toArray⟩, ln1, col2⟩]) := by
    obtain ⟨n, hn⟩ : ∃ n, (tokAt (c :: r)).2.1 = n + 1 := ⟨(tokAt (c :: r)).2.1 - 1, by omega⟩
    have hcons : (c :: r).take (tokAt (c :: r)).2.1 ++ z = c :: (r.take n ++ z) := by rw [hn, List.take_succ_cons, List.cons_append]
    have hta2 : tokAt (c :: (r.take n ++ z)) = tokAt (c :: r) := by rw [← hcons]; exact hta
    rw [hcons, gT_tok _ _ _ _ _ h10 h35 (by rw [hta2]; exact he), hta2, ← hcons]
    rw [show ((c :: r).take (tokAt (c :: r)).2.1 ++ z).drop (tokAt (c :: r)).2.1 = z by
      conv => lhs; rw [← hlt]
      rw [hlt]; exact (by have := List.drop_left (l₁ := (c :: r).take (tokAt (c :: r)).2.1) (l₂ := z); rw [hlt] at this; exact this)]
    rw [decide_eq_true hp, Bool.or_true]
    unfold addT
    rw [if_pos hp]
    rw [show ((c :: r).take (tokAt (c :: r)).2.1 ++ z).take (tokAt (c :: r)).2.1 = (c :: r).take (tokAt (c :: r)).2.1 by
      have := List.take_left (l₁ := (c :: r).take (tokAt (c :: r)).2.1) (l₂ := z); rw [hlt] at this; exact this]
  refine ⟨ln1, col2 + (tokAt (c :: r)).2.1, out1 ++ [⟨(tokAt (c :: r)).1, ⟨((c :: r).take (tokAt (c :: r)).2.1).toArray⟩, ln1, col2⟩], ?_, ?_⟩
  · unfold shape at hs ⊢; rw [List.map_append, List.map_append, hs]; rfl
  · rw [backB_snoc]
    have e0 : ls (stepB k (backB k out) (⟨(tokAt (c :: r)).1, ⟨((c :: r).take (tokAt (c :: r)).2.1).toArray⟩, ln, col⟩ : Tk)) = ls (backB k out) ++ (ls (blkL k) ++ (c :: r).take (tokAt (c :: r)).2.1) := by
      unfold stepB
      rw [if_neg (by show ¬ (tokAt (c :: r)).1 = 4; omega), ls_append, ls_append, List.append_assoc, htx]
    rw [e0, List.append_assoc, List.append_assoc, e, e2, e3]
theorem gS_sim {k : Nat} (hk : k < 3) : ∀ (f : Nat) (r : List UInt8) (ln col : Int) (sm cm : Bool) (out : List Tk), r.length < f → INV k sm out → (gS f r ln col sm cm out).e = 0 → INV k false (gS f r ln col sm cm out).l := by
  intro f
  induction f with
  | zero => intro r _ _ _ _ _ h; omega
  | succ f ih =>
    intro r ln col sm cm out hf hi
    cases r with
    | nil => exact fun _ => inv_end hk hi ln col
    | cons c r =>
      simp only [List.length_cons] at hf
      unfold gS
      by_cases hc : b2 c = 10
      · rw [if_pos hc]; exact ih r _ _ _ _ _ (by omega) (inv_end hk hi ln col)
      · rw [if_neg hc]
        have hc' : c ≠ 10 := fun e => hc (by rw [e]; rfl)
        split
        · split
          · intro h; exact absurd h (by show ¬ (3 : Int) = 0; decide)
          · exact ih r _ _ _ _ _ (by omega) hi
        · split
          · exact ih r _ _ _ _ _ (by omega) hi
          · rename_i h35
            split
            · rename_i he; intro h; exact absurd h he
            · rename_i he
              have he : (tokAt (c :: r)).2.2 = 0 := by simpa using he
              have hl := tok_len he
              obtain ⟨_, h3⟩ := tok_no10 hc' he
              refine ih _ _ _ _ _ _ (by rw [List.length_drop]; simp only [List.length_cons]; omega) ?_
              by_cases hp : 0 < (tokAt (c :: r)).1
              · rw [decide_eq_true hp, Bool.or_true]; exact inv_tok hk hi hc h35 he hp h3 ln col
              · rw [decide_eq_false hp, Bool.or_false]; unfold addT; rw [if_neg hp]; exact hi
theorem size_app (a b : ByteArray) : (a ++ b).size = a.size + b.size := by rw [← ls_length, ls_append, List.length_append, ls_length, ls_length]
theorem gS_room {k : Nat} (hk : k < 3) : ∀ (f : Nat) (r : List UInt8) (ln col : Int) (sm cm : Bool) (out : List Tk), r.length < f → (backB k (gS f r ln col sm cm out).l).size ≤ (backB k out).size + 16 * r.length + 16 := by
  have hend : ∀ (sm : Bool) (ln col : Int) (out : List Tk), (backB k (endT sm ln col out)).size ≤ (backB k out).size + 16 := by
    intro sm ln col out
    unfold endT
    split
    · rw [backB_snoc]; unfold stepB; rw [if_pos rfl, size_app, size_app]; have := (blk_blank hk).2.2.2; omega
    · omega
  have h0 : (backB k []).size = 0 := rfl
  intro f
  induction f with
  | zero => intro r _ _ _ _ _ h; omega
  | succ f ih =>
    intro r ln col sm cm out hf
    cases r with
    | nil => have := hend sm ln col out; show (backB k (endT sm ln col out)).size ≤ _; omega
    | cons c r =>
      simp only [List.length_cons] at hf ⊢
      unfold gS
      split
      · have h1 := ih r (ln + 1) 1 false false (endT sm ln col out) (by omega)
        have h2 := hend sm ln col out
        omega
      · split
        · split
          · show (backB k []).size ≤ _; omega
          · have h1 := ih r ln (col + 1) sm true out (by omega)
            omega
        · split
          · have h1 := ih r ln (col + 1) sm true out (by omega)
            omega
          · split
            · show (backB k []).size ≤ _; omega
            · rename_i he
              have hl := tok_len (r := c :: r) (by simpa using he)
              have h1 := ih ((c :: r).drop (tokAt (c :: r)).2.1) ln (col + (tokAt (c :: r)).2.1) (sm || decide (0 < (tokAt (c :: r)).1)) false (addT (tokAt (c :: r)) (c :: r) ln col out) (by rw [List.length_drop]; simp only [List.length_cons]; omega)
              have h2 : (backB k (addT (tokAt (c :: r)) (c :: r) ln col out)).size ≤ (backB k out).size + 16 * (tokAt (c :: r)).2.1 := by
                unfold addT
                split
                · rw [backB_snoc]; unfold stepB; rw [size_app, size_app]
                  have hb := blk_blank hk
                  split
                  · have := hb.2.2.2; omega
                  · have hz : (⟨((c :: r).take (tokAt (c :: r)).2.1).toArray⟩ : ByteArray).size = (tokAt (c :: r)).2.1 := by
                      rw [← ls_length, ls_mk, List.length_take]; omega
                    show (backB k out).size + (blkL k).size + (⟨((c :: r).take (tokAt (c :: r)).2.1).toArray⟩ : ByteArray).size ≤ _
                    rw [hz]; have := hb.2.2.1; omega
                · omega
              rw [List.length_drop] at h1
              simp only [List.length_cons] at h1 hl
              omega
theorem back_room {k : Nat} (hk : k < 3) {s : ByteArray} (h : s.size ≤ 400) : (backB k (tkF s).l).size ≤ 6416 := by
  unfold tkF; rw [if_neg (by omega)]
  have := gS_room hk ((ls s).length + 1) (ls s) 1 1 false false [] (by omega)
  have h0 : (backB k []).size = 0 := rfl
  have hl := ls_length s
  show (backB k (gS ((ls s).length + 1) (ls s) 1 1 false false []).l).size ≤ 6416
  omega
theorem back_fold (k : Nat) : ∀ (l : List Tk) (t : ByteArray), t.size ≤ (l.foldl (stepB k) t).size
  | [], t => Nat.le_refl _
  | x :: l, t => Nat.le_trans (by unfold stepB; rw [size_app, size_app]; omega) (back_fold k l (stepB k t x))
theorem back_take (k : Nat) (l : List Tk) (i : Nat) : (backB k (l.take i)).size ≤ (backB k l).size := by
  have h := back_fold k (l.drop i) (backB k (l.take i))
  unfold backB at h ⊢
  rwa [← List.foldl_append, List.take_append_drop] at h
theorem back_ok {k : Nat} (hk : k < 3) {s : ByteArray} (h : s.size ≤ 400) (he : (tkF s).e = 0) : (tkF (backB k (tkF s).l)).e = 0 ∧ shape (tkF (backB k (tkF s).l)).l = shape (tkF s).l := by
  have hr := back_room hk h
  have hi : INV k false (tkF s).l := by
    unfold tkF at he ⊢
    rw [if_neg (by omega)] at he ⊢
    exact gS_sim hk _ (ls s) 1 1 false false [] (by omega) (fun z _ => ⟨1, 1, [], rfl, rfl⟩) he
  obtain ⟨ln, col, out', hs, e⟩ := hi [] (.inl rfl)
  rw [List.append_nil] at e
  have e2 : tkF (backB k (tkF s).l) = ⟨out', 0, 0, 0⟩ := by
    rw [show tkF (backB k (tkF s).l) = gT (ls (backB k (tkF s).l)) 1 1 false false [] from by
      show (if 16384 < (backB k (tkF s).l).size then _ else _) = _
      rw [if_neg (by omega)]]
    rw [e]; rfl
  rw [e2]
  exact ⟨rfl, hs⟩

def eqKT (a b : Tk) : Bool := (a.gKind == b.gKind) && (a.gText.toList == b.gText.toList)
def sameK (l m : List Tk) : Bool := decide (l.length = m.length) && (List.range l.length).all fun j => eqKT (l.getD j (⟨0, ByteArray.empty, 0, 0⟩ : Tk)) (m.getD j (⟨0, ByteArray.empty, 0, 0⟩ : Tk))
theorem sameK_no {l m : List Tk} (h : l.length ≠ m.length) : sameK l m = false := by unfold sameK; rw [decide_eq_false h]; rfl
theorem sameK_bad {l m : List Tk} {j : Nat} (h : j < l.length) (h2 : eqKT (l.getD j (⟨0, ByteArray.empty, 0, 0⟩ : Tk)) (m.getD j (⟨0, ByteArray.empty, 0, 0⟩ : Tk)) = false) : sameK l m = false := by
  unfold sameK; rw [Bool.and_eq_false_iff, List.all_eq_false]; exact .inr ⟨j, List.mem_range.2 h, by rw [h2]; decide⟩
theorem sameK_yes {l m : List Tk} (h : l.length = m.length) (h2 : ∀ j, j < l.length → eqKT (l.getD j (⟨0, ByteArray.empty, 0, 0⟩ : Tk)) (m.getD j (⟨0, ByteArray.empty, 0, 0⟩ : Tk)) = true) : sameK l m = true := by
  unfold sameK; rw [decide_eq_true h, Bool.true_and, List.all_eq_true]; intro j hj; exact h2 j (List.mem_range.1 hj)
theorem shape_same {l m : List Tk} (h : shape m = shape l) : sameK l m = true := by
  have hl : m.length = l.length := by have := congrArg List.length h; simpa [shape] using this
  refine sameK_yes hl.symm fun j hj => ?_
  have hm : j < m.length := by omega
  have h1 : (shape m)[j]? = (shape l)[j]? := by rw [h]
  unfold shape at h1
  rw [List.getElem?_map, List.getElem?_map, List.getElem?_eq_getElem hm, List.getElem?_eq_getElem hj] at h1
  simp only [Option.map_some, Option.some.injEq, Prod.mk.injEq] at h1
  rw [List.getD_eq_getElem?_getD, List.getD_eq_getElem?_getD, List.getElem?_eq_getElem hm, List.getElem?_eq_getElem hj]
  show ((l[j]).gKind == (m[j]).gKind && (l[j]).gText.toList == (m[j]).gText.toList) = true
  rw [h1.1, show (l[j]).gText = (m[j]).gText from ls_inj h1.2.symm, beq_self_eq_true, beq_self_eq_true]; rfl
theorem back_next {k : Nat} {l : List Tk} {i : Int} {t : ByteArray} (h0 : 0 ≤ i) (hi : i < (l.length : Int)) (ht : t = backB k (l.take i.toNat)) : backB k (l.take (i + 1).toNat) = stepB k t (l.getD i.toNat (⟨0, ByteArray.empty, 0, 0⟩ : Tk)) := by
  rw [ht, show (i + 1).toNat = i.toNat + 1 by omega, List.take_succ_eq_append_getElem (show i.toNat < l.length by omega), backB_snoc, List.getD_eq_getElem?_getD, List.getElem?_eq_getElem (show i.toNat < l.length by omega)]; rfl
theorem text_small {s : ByteArray} {x : Tk} (h : PT (splitOn 10 (ls s)) x) : x.gText.size ≤ s.size := by
  obtain ⟨p1, p2, p3, p4⟩ := h
  have h1 := p3.length_le
  rw [List.length_drop, ls_length] at h1
  have h2 := piece_size2 s p1
  have h3 := piece_size 10 s (x.gPlace_Line - 1).toNat
  omega
theorem hb26 : HasBody Tryd.prog 26 := fun _ _ => by kernel_rfl
noncomputable def K26_0 : List Item := adv 2 [] (bodyOf Tryd.f26)
noncomputable def K26_1 : List Item := adv 5 [] (popK (popK K26_0))
noncomputable def K26_2 : List Item := adv 1 [] (popK K26_1)
noncomputable def K26_3 : List Item := adv 2 [] (popK K26_2)
noncomputable def K26_4 : List Item := adv 1 [] K26_3
noncomputable def K26_5 : List Item := adv 1 [] (popK K26_4)
noncomputable def K26_6 : List Item := adv 4 [] (popK K26_5)
noncomputable def K26_7 : List Item := adv 8 [] K26_3
set_option maxRecDepth 20000 in
set_option maxHeartbeats 20000000 in
theorem bkeq_any (a b : Tk) (w : World) : Ret Tryd.prog 26 #[.agg #[.int .i64 a.gKind, .string a.gText, .int .i64 a.gPlace_Line, .int .i64 a.gPlace_Column], .agg #[.int .i64 b.gKind, .string b.gText, .int .i64 b.gPlace_Line, .int .i64 b.gPlace_Column]] w (fun v w' => v = .bool (eqKT a b) ∧ Sep w [] w') := by
  have S0 := Sep.refl w
  refine Ret.named fun R hR => ?_
  refine Ret.of_J (N := 17) [(0, .agg #[.int .i64 a.gKind, .string a.gText, .int .i64 a.gPlace_Line, .int .i64 a.gPlace_Column]), (1, .agg #[.int .i64 b.gKind, .string b.gText, .int .i64 b.gPlace_Line, .int .i64 b.gPlace_Column])] Tryd.func26 rfl rfl (Nat.le_of_ble_eq_true (by kernel_rfl)) (by kernel_rfl) ?_
  refine J.run 2 K26_0 [(0, .agg #[.int .i64 a.gKind, .string a.gText, .int .i64 a.gPlace_Line, .int .i64 a.gPlace_Column]), (1, .agg #[.int .i64 b.gKind, .string b.gText, .int .i64 b.gPlace_Line, .int .i64 b.gPlace_Column])] w (by kernel_rfl) ?_
  refine J.new S0 2 [.int .i64 a.gKind, .string a.gText, .int .i64 a.gPlace_Line, .int .i64 a.gPlace_Column] 36 (by kernel_rfl) ?_
  intro b1 w1 S1
  refine J.new S1 3 [.int .i64 b.gKind, .string b.gText, .int .i64 b.gPlace_Line, .int .i64 b.gPlace_Column] 36 (by kernel_rfl) ?_
  intro b2 w2 S2
  refine J.run 5 K26_1 [(5, .pointer (some ⟨b1, 0, none⟩)), (3, .pointer (some ⟨b2, 0, none⟩)), (2, .pointer (some ⟨b1, 0, none⟩))] w2 (by kernel_rfl) ?_
  refine J.ok (OK.ldBox S2 1 6 3 0 (.int .i64 a.gKind) (by kernel_rfl) rfl (by kernel_rfl)) ?_
  refine J.run 1 K26_2 [(7, .pointer (some ⟨b2, 0, none⟩)), (6, .int .i64 a.gKind), (3, .pointer (some ⟨b2, 0, none⟩)), (2, .pointer (some ⟨b1, 0, none⟩))] w2 (by kernel_rfl) ?_
  refine J.ok (OK.ldBox S2 0 8 3 0 (.int .i64 b.gKind) (by kernel_rfl) rfl (by kernel_rfl)) ?_
  refine J.run 2 K26_3 [(10, .bool (a.gKind == b.gKind)), (3, .pointer (some ⟨b2, 0, none⟩)), (2, .pointer (some ⟨b1, 0, none⟩))] w2 (by kernel_rfl) ?_
  by_cases fk1 : a.gKind = b.gKind
  · skip
    refine J.head (.bool true) (congrArg Value.bool (beq_iff_eq.2 fk1)) ?_
    refine J.run 1 K26_4 [(11, .pointer (some ⟨b1, 1, none⟩)), (10, .bool true), (3, .pointer (some ⟨b2, 0, none⟩))] w2 (by kernel_rfl) ?_
    refine J.ok (OK.ldBox S2 1 12 9 1 (.string a.gText) (by kernel_rfl) rfl (by kernel_rfl)) ?_
    refine J.run 1 K26_5 [(13, .pointer (some ⟨b2, 1, none⟩)), (12, .string a.gText), (10, .bool true)] w2 (by kernel_rfl) ?_
    refine J.ok (OK.ldBox S2 0 14 9 1 (.string b.gText) (by kernel_rfl) rfl (by kernel_rfl)) ?_
    refine J.run 4 K26_6 [(4, .bool (a.gText.toList == b.gText.toList))] w2 (by kernel_rfl) ?_
    refine J.ret Tryd.f26 [.bool (a.gText.toList == b.gText.toList)] Tryd.func26 ⟨by kernel_rfl, trivial⟩ ?_
    refine hR _ _ ?_
    exact ⟨congrArg Value.bool (by unfold eqKT; simp [fk1]), S2.nil⟩
  · skip
    refine J.head (.bool false) (congrArg Value.bool (beq_eq_false_iff_ne.2 fk1)) ?_
    refine J.run 8 K26_7 [(4, .bool false)] w2 (by kernel_rfl) ?_
    refine J.ret Tryd.f26 [.bool false] Tryd.func26 ⟨by kernel_rfl, trivial⟩ ?_
    refine hR _ _ ?_
    exact ⟨congrArg Value.bool (by unfold eqKT; simp [fk1]), S2.nil⟩

theorem hb25 : HasBody Tryd.prog 25 := fun _ _ => by kernel_rfl
noncomputable def K25_0 : List Item := adv 13 [] (bodyOf Tryd.f25)
noncomputable def K25_1 : List Item := adv 11 [false] K25_0
noncomputable def K25_2 : List Item := adv 5 [] K25_1
noncomputable def K25_3 : List Item := adv 7 [true] K25_2
noncomputable def K25_4 : List Item := adv 1 [] (popK (popK (popK K25_3)))
noncomputable def K25_5 : List Item := adv 5 [] (popK K25_4)
noncomputable def K25_6 : List Item := adv 4 [] (popK (popK (popK (popK K25_5))))
noncomputable def K25_7 : List Item := adv 2 [] (popK (popK (popK K25_6)))
noncomputable def K25_8 : List Item := adv 5 [false] K25_7
noncomputable def K25_9 : List Item := adv 5 [true] K25_7
noncomputable def K25_10 : List Item := adv 6 [false] K25_2
noncomputable def K25_11 : List Item := adv 5 [true] K25_0
set_option maxRecDepth 20000 in
set_option maxHeartbeats 20000000 in
theorem equalfunc_any (la : Option Addr) (na ca : Nat) (xa : List Tk) (lb : Option Addr) (nb cb : Nat) (xb : List Tk) (w : World) (ha : Recs tkE 4 w la na xa) (hb : Recs tkE 4 w lb nb xb) (hla : na ≤ 9223372036854775807) : Ret Tryd.prog 25 #[.slice la na ca, .slice lb nb cb, .func (.func 26) #[] #[]] w (fun v w' => v = .bool (sameK xa xb) ∧ Sep w [] w') := by
  have S0 := Sep.refl w
  refine Ret.named fun R hR => ?_
  refine Ret.of_J (N := 32) [(0, .slice la na ca), (1, .slice lb nb cb), (2, .func (.func 26) #[] #[])] Tryd.func25 rfl rfl (Nat.le_of_ble_eq_true (by kernel_rfl)) (by kernel_rfl) ?_
  have hla_ := ha.len_eq
  have hlb_ := hb.len_eq
  refine J.run 13 K25_0 [(14, .bool ((na : Int) != (nb : Int))), (0, .slice la na ca), (1, .slice lb nb cb), (2, .func (.func 26) #[] #[])] w (by kernel_rfl) ?_
  by_cases fk1 : (na : Int) = (nb : Int)
  · skip
    refine J.head (.bool false) (congrArg Value.bool (bne_eq_false_iff_eq.2 fk1)) ?_
    refine J.run 11 K25_1 [(17, .int .i64 0), (16, .int .i64 (na : Int)), (15, .slice la na ca), (1, .slice lb nb cb), (2, .func (.func 26) #[] #[])] w (by kernel_rfl) ?_
    have L25_1 : ∀ (mm_ : Nat) (i : Int) (w1 : World), (0 ≤ i) → (i ≤ (na : Int)) → (∀ j, j < (i).toNat → eqKT (xa.getD j (⟨0, ByteArray.empty, 0, 0⟩ : Tk)) (xb.getD j (⟨0, ByteArray.empty, 0, 0⟩ : Tk)) = true) → Sep w [] w1 → ((na : Int) - i).toNat = mm_ → J Tryd.prog 25 32 R K25_1 [(17, .int .i64 i), (16, .int .i64 (na : Int)), (15, .slice la na ca), (1, .slice lb nb cb), (2, .func (.func 26) #[] #[])] w1 := by
      intro mm1
      induction mm1 using Nat.strongRecOn with
      | _ mm1 ih1 =>
      intro i w1 h0 h1 hq S1 hm1
      refine J.run 5 K25_2 [(18, .bool (decide (i < (na : Int)))), (17, .int .i64 i), (16, .int .i64 (na : Int)), (15, .slice la na ca), (1, .slice lb nb cb), (2, .func (.func 26) #[] #[])] w1 (by kernel_rfl) ?_
      by_cases fk2 : i < (na : Int)
      · skip
        refine J.head (.bool true) (congrArg Value.bool (decide_eq_true fk2)) ?_
        refine J.run 7 K25_3 [(19, .int .i64 i), (17, .int .i64 i), (16, .int .i64 (na : Int)), (15, .slice la na ca), (1, .slice lb nb cb), (2, .func (.func 26) #[] #[])] w1 (by kernel_rfl) ?_
        obtain ⟨p1, hp1, hc1⟩ := ha.at (⟨0, ByteArray.empty, 0, 0⟩ : Tk) (i).toNat (by omega)
        refine J.ok (OK.index 20 23 4 la p1 na (i).toNat i (p1.add ((i).toNat * 4)) (by kernel_rfl) (by kernel_rfl) hp1 (by omega) (by omega) rfl) ?_
        refine J.ok (OK.ldCells 21 36 (p1.add ((i).toNat * 4)) [.int .i64 ((xa.getD (i).toNat (⟨0, ByteArray.empty, 0, 0⟩ : Tk)).gKind), .string ((xa.getD (i).toNat (⟨0, ByteArray.empty, 0, 0⟩ : Tk)).gText), .int .i64 ((xa.getD (i).toNat (⟨0, ByteArray.empty, 0, 0⟩ : Tk)).gPlace_Line), .int .i64 ((xa.getD (i).toNat (⟨0, ByteArray.empty, 0, 0⟩ : Tk)).gPlace_Column)] (by kernel_rfl) (by kernel_rfl) (by kernel_rfl) (fun j_ v_ hj_ => S1.cell (hc1 j_ v_ hj_))) ?_
        refine J.new S1 8 [.int .i64 0, .string ByteArray.empty, .int .i64 0, .int .i64 0] 36 (by kernel_rfl) ?_
        intro b1 w2 S2
        refine J.run 1 K25_4 [(7, .int .i64 i), (8, .pointer (some ⟨b1, 0, none⟩)), (21, .agg #[.int .i64 ((xa.getD (i).toNat (⟨0, ByteArray.empty, 0, 0⟩ : Tk)).gKind), .string ((xa.getD (i).toNat (⟨0, ByteArray.empty, 0, 0⟩ : Tk)).gText), .int .i64 ((xa.getD (i).toNat (⟨0, ByteArray.empty, 0, 0⟩ : Tk)).gPlace_Line), .int .i64 ((xa.getD (i).toNat (⟨0, ByteArray.empty, 0, 0⟩ : Tk)).gPlace_Column)]), (17, .int .i64 i), (16, .int .i64 (na : Int)), (15, .slice la na ca), (1, .slice lb nb cb), (2, .func (.func 26) #[] #[])] w2 (by kernel_rfl) ?_
        refine J.stBox S2 0 36 0 (.agg #[.int .i64 ((xa.getD (i).toNat (⟨0, ByteArray.empty, 0, 0⟩ : Tk)).gKind), .string ((xa.getD (i).toNat (⟨0, ByteArray.empty, 0, 0⟩ : Tk)).gText), .int .i64 ((xa.getD (i).toNat (⟨0, ByteArray.empty, 0, 0⟩ : Tk)).gPlace_Line), .int .i64 ((xa.getD (i).toNat (⟨0, ByteArray.empty, 0, 0⟩ : Tk)).gPlace_Column)]) [.int .i64 ((xa.getD (i).toNat (⟨0, ByteArray.empty, 0, 0⟩ : Tk)).gKind), .string ((xa.getD (i).toNat (⟨0, ByteArray.empty, 0, 0⟩ : Tk)).gText), .int .i64 ((xa.getD (i).toNat (⟨0, ByteArray.empty, 0, 0⟩ : Tk)).gPlace_Line), .int .i64 ((xa.getD (i).toNat (⟨0, ByteArray.empty, 0, 0⟩ : Tk)).gPlace_Column)] [box b1 [.int .i64 ((xa.getD (i).toNat (⟨0, ByteArray.empty, 0, 0⟩ : Tk)).gKind), .string ((xa.getD (i).toNat (⟨0, ByteArray.empty, 0, 0⟩ : Tk)).gText), .int .i64 ((xa.getD (i).toNat (⟨0, ByteArray.empty, 0, 0⟩ : Tk)).gPlace_Line), .int .i64 ((xa.getD (i).toNat (⟨0, ByteArray.empty, 0, 0⟩ : Tk)).gPlace_Column)] 36] (by kernel_rfl) rfl (by kernel_rfl) (by kernel_rfl) rfl ?_
        intro w3 S3
        refine J.run 5 K25_5 [(23, .int .i64 i), (22, .slice lb nb cb), (8, .pointer (some ⟨b1, 0, none⟩)), (17, .int .i64 i), (16, .int .i64 (na : Int)), (15, .slice la na ca), (1, .slice lb nb cb), (2, .func (.func 26) #[] #[])] w3 (by kernel_rfl) ?_
        obtain ⟨p2, hp2, hc2⟩ := hb.at (⟨0, ByteArray.empty, 0, 0⟩ : Tk) (i).toNat (by omega)
        refine J.ok (OK.index 24 23 4 lb p2 nb (i).toNat i (p2.add ((i).toNat * 4)) (by kernel_rfl) (by kernel_rfl) hp2 (by omega) (by omega) rfl) ?_
        refine J.ok (OK.ldCells 25 36 (p2.add ((i).toNat * 4)) [.int .i64 ((xb.getD (i).toNat (⟨0, ByteArray.empty, 0, 0⟩ : Tk)).gKind), .string ((xb.getD (i).toNat (⟨0, ByteArray.empty, 0, 0⟩ : Tk)).gText), .int .i64 ((xb.getD (i).toNat (⟨0, ByteArray.empty, 0, 0⟩ : Tk)).gPlace_Line), .int .i64 ((xb.getD (i).toNat (⟨0, ByteArray.empty, 0, 0⟩ : Tk)).gPlace_Column)] (by kernel_rfl) (by kernel_rfl) (by kernel_rfl) (fun j_ v_ hj_ => S3.cell (hc2 j_ v_ hj_))) ?_
        refine J.new S3 9 [.int .i64 0, .string ByteArray.empty, .int .i64 0, .int .i64 0] 36 (by kernel_rfl) ?_
        intro b2 w4 S4
        refine J.stBox S4 0 36 0 (.agg #[.int .i64 ((xb.getD (i).toNat (⟨0, ByteArray.empty, 0, 0⟩ : Tk)).gKind), .string ((xb.getD (i).toNat (⟨0, ByteArray.empty, 0, 0⟩ : Tk)).gText), .int .i64 ((xb.getD (i).toNat (⟨0, ByteArray.empty, 0, 0⟩ : Tk)).gPlace_Line), .int .i64 ((xb.getD (i).toNat (⟨0, ByteArray.empty, 0, 0⟩ : Tk)).gPlace_Column)]) [.int .i64 ((xb.getD (i).toNat (⟨0, ByteArray.empty, 0, 0⟩ : Tk)).gKind), .string ((xb.getD (i).toNat (⟨0, ByteArray.empty, 0, 0⟩ : Tk)).gText), .int .i64 ((xb.getD (i).toNat (⟨0, ByteArray.empty, 0, 0⟩ : Tk)).gPlace_Line), .int .i64 ((xb.getD (i).toNat (⟨0, ByteArray.empty, 0, 0⟩ : Tk)).gPlace_Column)] [box b2 [.int .i64 ((xb.getD (i).toNat (⟨0, ByteArray.empty, 0, 0⟩ : Tk)).gKind), .string ((xb.getD (i).toNat (⟨0, ByteArray.empty, 0, 0⟩ : Tk)).gText), .int .i64 ((xb.getD (i).toNat (⟨0, ByteArray.empty, 0, 0⟩ : Tk)).gPlace_Line), .int .i64 ((xb.getD (i).toNat (⟨0, ByteArray.empty, 0, 0⟩ : Tk)).gPlace_Column)] 36, box b1 [.int .i64 ((xa.getD (i).toNat (⟨0, ByteArray.empty, 0, 0⟩ : Tk)).gKind), .string ((xa.getD (i).toNat (⟨0, ByteArray.empty, 0, 0⟩ : Tk)).gText), .int .i64 ((xa.getD (i).toNat (⟨0, ByteArray.empty, 0, 0⟩ : Tk)).gPlace_Line), .int .i64 ((xa.getD (i).toNat (⟨0, ByteArray.empty, 0, 0⟩ : Tk)).gPlace_Column)] 36] (by kernel_rfl) rfl (by kernel_rfl) (by kernel_rfl) rfl ?_
        intro w5 S5
        refine J.run 4 K25_6 [(26, .func (.func 26) #[] #[]), (9, .pointer (some ⟨b2, 0, none⟩)), (8, .pointer (some ⟨b1, 0, none⟩)), (17, .int .i64 i), (16, .int .i64 (na : Int)), (15, .slice la na ca), (1, .slice lb nb cb), (2, .func (.func 26) #[] #[])] w5 (by kernel_rfl) ?_
        refine J.ok (OK.ldBox S5 1 27 36 0 (.agg #[.int .i64 ((xa.getD (i).toNat (⟨0, ByteArray.empty, 0, 0⟩ : Tk)).gKind), .string ((xa.getD (i).toNat (⟨0, ByteArray.empty, 0, 0⟩ : Tk)).gText), .int .i64 ((xa.getD (i).toNat (⟨0, ByteArray.empty, 0, 0⟩ : Tk)).gPlace_Line), .int .i64 ((xa.getD (i).toNat (⟨0, ByteArray.empty, 0, 0⟩ : Tk)).gPlace_Column)]) (by kernel_rfl) rfl (by kernel_rfl)) ?_
        refine J.ok (OK.ldBox S5 0 28 36 0 (.agg #[.int .i64 ((xb.getD (i).toNat (⟨0, ByteArray.empty, 0, 0⟩ : Tk)).gKind), .string ((xb.getD (i).toNat (⟨0, ByteArray.empty, 0, 0⟩ : Tk)).gText), .int .i64 ((xb.getD (i).toNat (⟨0, ByteArray.empty, 0, 0⟩ : Tk)).gPlace_Line), .int .i64 ((xb.getD (i).toNat (⟨0, ByteArray.empty, 0, 0⟩ : Tk)).gPlace_Column)]) (by kernel_rfl) rfl (by kernel_rfl)) ?_
        refine J.callF 29 26 #[.agg #[.int .i64 ((xa.getD (i).toNat (⟨0, ByteArray.empty, 0, 0⟩ : Tk)).gKind), .string ((xa.getD (i).toNat (⟨0, ByteArray.empty, 0, 0⟩ : Tk)).gText), .int .i64 ((xa.getD (i).toNat (⟨0, ByteArray.empty, 0, 0⟩ : Tk)).gPlace_Line), .int .i64 ((xa.getD (i).toNat (⟨0, ByteArray.empty, 0, 0⟩ : Tk)).gPlace_Column)], .agg #[.int .i64 ((xb.getD (i).toNat (⟨0, ByteArray.empty, 0, 0⟩ : Tk)).gKind), .string ((xb.getD (i).toNat (⟨0, ByteArray.empty, 0, 0⟩ : Tk)).gText), .int .i64 ((xb.getD (i).toNat (⟨0, ByteArray.empty, 0, 0⟩ : Tk)).gPlace_Line), .int .i64 ((xb.getD (i).toNat (⟨0, ByteArray.empty, 0, 0⟩ : Tk)).gPlace_Column)]] hb26 (by kernel_rfl) (bkeq_any (xa.getD (i).toNat (⟨0, ByteArray.empty, 0, 0⟩ : Tk)) (xb.getD (i).toNat (⟨0, ByteArray.empty, 0, 0⟩ : Tk)) _) ?_
        rintro _ w6 ⟨rfl, T1⟩
        have S6 : Sep w [box b2 [.int .i64 ((xb.getD (i).toNat (⟨0, ByteArray.empty, 0, 0⟩ : Tk)).gKind), .string ((xb.getD (i).toNat (⟨0, ByteArray.empty, 0, 0⟩ : Tk)).gText), .int .i64 ((xb.getD (i).toNat (⟨0, ByteArray.empty, 0, 0⟩ : Tk)).gPlace_Line), .int .i64 ((xb.getD (i).toNat (⟨0, ByteArray.empty, 0, 0⟩ : Tk)).gPlace_Column)] 36, box b1 [.int .i64 ((xa.getD (i).toNat (⟨0, ByteArray.empty, 0, 0⟩ : Tk)).gKind), .string ((xa.getD (i).toNat (⟨0, ByteArray.empty, 0, 0⟩ : Tk)).gText), .int .i64 ((xa.getD (i).toNat (⟨0, ByteArray.empty, 0, 0⟩ : Tk)).gPlace_Line), .int .i64 ((xa.getD (i).toNat (⟨0, ByteArray.empty, 0, 0⟩ : Tk)).gPlace_Column)] 36] w6 := S5.trans T1
        clear T1 S5
        refine J.run 2 K25_7 [(30, .bool (!(eqKT (xa.getD (i).toNat (⟨0, ByteArray.empty, 0, 0⟩ : Tk)) (xb.getD (i).toNat (⟨0, ByteArray.empty, 0, 0⟩ : Tk))))), (17, .int .i64 i), (16, .int .i64 (na : Int)), (15, .slice la na ca), (1, .slice lb nb cb), (2, .func (.func 26) #[] #[])] w6 (by kernel_rfl) ?_
        rcases Bool.eq_false_or_eq_true (eqKT (xa.getD (i).toNat (⟨0, ByteArray.empty, 0, 0⟩ : Tk)) (xb.getD (i).toNat (⟨0, ByteArray.empty, 0, 0⟩ : Tk))) with fk3 | fk3
        · skip
          refine J.head (.bool false) (congrArg Value.bool (by rw [fk3]; rfl)) ?_
          refine J.run 5 K25_8 [(31, .int .i64 (IntKind.wrap .i64 (i + 1))), (16, .int .i64 (na : Int)), (15, .slice la na ca), (1, .slice lb nb cb), (2, .func (.func 26) #[] #[])] w6 (by kernel_rfl) ?_
          refine J.head (.int .i64 (i + 1)) (congrArg (Value.int .i64) (IntWalk.i64_in _ (by omega))) ?_
          refine J.run 3 K25_1 [(17, .int .i64 (i + 1)), (16, .int .i64 (na : Int)), (15, .slice la na ca), (1, .slice lb nb cb), (2, .func (.func 26) #[] #[])] w6 (by kernel_rfl) ?_
          have S7 : Sep w [box b2 [.int .i64 ((xb.getD (i).toNat (⟨0, ByteArray.empty, 0, 0⟩ : Tk)).gKind), .string ((xb.getD (i).toNat (⟨0, ByteArray.empty, 0, 0⟩ : Tk)).gText), .int .i64 ((xb.getD (i).toNat (⟨0, ByteArray.empty, 0, 0⟩ : Tk)).gPlace_Line), .int .i64 ((xb.getD (i).toNat (⟨0, ByteArray.empty, 0, 0⟩ : Tk)).gPlace_Column)] 36] w6 := S6.erase 1
          clear S6
          have S8 : Sep w [] w6 := S7.erase 0
          clear S7
          refine J.run 0 K25_1 [(17, .int .i64 (i + 1)), (16, .int .i64 (na : Int)), (15, .slice la na ca), (1, .slice lb nb cb), (2, .func (.func 26) #[] #[])] w6 (by kernel_rfl) ?_
          exact ih1 _ (show ((na : Int) - (i + 1)).toNat < mm1 from by omega) (i + 1) w6 (by omega) (by omega) (dg_step (q := fun j => eqKT (xa.getD j (⟨0, ByteArray.empty, 0, 0⟩ : Tk)) (xb.getD j (⟨0, ByteArray.empty, 0, 0⟩ : Tk)) = true) h0 hq fk3) S8 rfl
        · skip
          refine J.head (.bool true) (congrArg Value.bool (by rw [fk3]; rfl)) ?_
          refine J.run 5 K25_9 [(6, .bool false)] w6 (by kernel_rfl) ?_
          refine J.ret Tryd.f25 [.bool false] Tryd.func25 ⟨by kernel_rfl, trivial⟩ ?_
          refine hR _ _ ?_
          exact ⟨congrArg Value.bool (sameK_bad (j := i.toNat) (by omega) fk3).symm, S6.nil⟩
      · skip
        refine J.head (.bool false) (congrArg Value.bool (decide_eq_false fk2)) ?_
        refine J.run 6 K25_10 [(6, .bool true)] w1 (by kernel_rfl) ?_
        refine J.ret Tryd.f25 [.bool true] Tryd.func25 ⟨by kernel_rfl, trivial⟩ ?_
        refine hR _ _ ?_
        exact ⟨congrArg Value.bool (sameK_yes (by omega) fun j hj => hq j (by omega)).symm, S1.nil⟩
    exact L25_1 _ 0 w (by omega) (by omega) (by intro j hj; simp at hj) S0 rfl
  · skip
    refine J.head (.bool true) (congrArg Value.bool (bne_iff_ne.2 fk1)) ?_
    refine J.run 5 K25_11 [(6, .bool false)] w (by kernel_rfl) ?_
    refine J.ret Tryd.f25 [.bool false] Tryd.func25 ⟨by kernel_rfl, trivial⟩ ?_
    refine hR _ _ ?_
    exact ⟨congrArg Value.bool (sameK_no (by omega)).symm, S0.nil⟩

end Go.Proofs.YtlklealllohmgaaDoor
