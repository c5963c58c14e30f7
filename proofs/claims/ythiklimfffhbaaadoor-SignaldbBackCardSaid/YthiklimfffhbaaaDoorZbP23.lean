/- Walks of functions of this seat, printed by a program over the engine. Conditions: as each theorem says. -/
import Derived.Test.YthiklimfffhbaaaDoorZbP21
namespace Go.Proofs.YthiklimfffhbaaaDoor
noncomputable section
open Go.Eng Go.RowKit
set_option linter.unusedSimpArgs false
set_option linter.unusedVariables false
theorem word_size (c : Bool) {a b : ByteArray} (ha : a.size ≤ 24 := by decide) (hb : b.size ≤ 24 := by decide) : (if c then a else b).size ≤ 24 := by cases c <;> assumption
theorem hb29 : HasBody Tryd.prog 29 := fun _ _ => by kernel_rfl
def K29_0 := adv 2 [] (bodyOf Tryd.f29)
def K29_1 := adv 1 [] (popK (popK (popK K29_0)))
set_option maxRecDepth 20000 in
set_option maxHeartbeats 20000000 in
theorem line_any (b : Nat) (p a : Option Addr) (c : Nat) (x : ByteArray) (la : Option Addr) (lc : Nat) (l : List ByteArray) (w0 : World) (L0 : List Eng.Claim) (w : World) (S0 : Sep w0 (box b [.pointer p, .slice a ((ls x).length) c] 68 :: rowOf enc8 a c 5 1 (ls x) :: rowOf (enc1 Value.string) la lc 9 1 l :: L0) w) (hp : p = none ∨ p = some ⟨b, 0, none⟩) (hj : (joinB l (⟨#[32]⟩ : ByteArray)).size ≤ 400) (hln : l.length ≤ 100) (hx : x.size ≤ 1000000000) : Ret Tryd.prog 29 #[.slice la l.length lc, .pointer (some ⟨b, 0, none⟩)] w (fun v w' => v = .tuple #[] ∧ ∃ a' c' t', t' = (x ++ (joinB l (⟨#[32]⟩ : ByteArray) ++ (⟨#[10]⟩ : ByteArray))) ∧ Sep w0 (box b [.pointer (some ⟨b, 0, none⟩), .slice a' (ls t').length c'] 68 :: rowOf enc8 a' c' 5 1 (ls t') :: rowOf (enc1 Value.string) la lc 9 1 l :: L0) w') := by
 refine Ret.named fun R hR => ?_
 refine Ret.of_J (N := 7) [(0, .slice la l.length lc), (1, .pointer (some ⟨b, 0, none⟩))] Tryd.func29 rfl rfl (Nat.le_of_ble_eq_true (by kernel_rfl)) (by kernel_rfl) ?_
 refine J.run 2 K29_0 [(3, .slice la l.length lc), (1, .pointer (some ⟨b, 0, none⟩))] w (by kernel_rfl) ?_
 refine J.callF 4 22 #[.slice la l.length lc, .string ⟨#[32]⟩] hb22 (by kernel_rfl) (join_any la l.length lc l (⟨#[32]⟩) _ (row1_ones (S0.nth 2 rfl) _ rfl) (rowOf_plain (S0.nth 2 rfl)) (rowOf_cells (S0.nth 2 rfl)).2.2 (by omega) (by omega)) ?_
 rintro _ w1 ⟨rfl, T1⟩
 have S1 : Sep w0 (box b [.pointer p, .slice a ((ls x).length) c] 68 :: rowOf enc8 a c 5 1 (ls x) :: rowOf (enc1 Value.string) la lc 9 1 l :: L0) w1 := S0.trans T1
 clear T1
 refine J.ok (OK.cat 5 (joinB l (⟨#[32]⟩)) (⟨#[10]⟩ : ByteArray) ((joinB l (⟨#[32]⟩)) ++ (⟨#[10]⟩ : ByteArray)) (by kernel_rfl) (by (have h1_ : (⟨#[10]⟩ : ByteArray).size = 1 := rfl); omega) (rfl)) ?_
 have S2 := S1.front 1 rfl
 clear S1
 have S3 : Sep w0 (box b [.pointer p, .slice a ((ls x).length) c] 68 :: rowOf enc8 a c 5 1 (ls x) :: rowOf (enc1 Value.string) la lc 9 1 l :: L0) w1 := S2.front 1 rfl
 clear S2
 refine J.callF 6 30 #[.pointer (some ⟨b, 0, none⟩), .string ((joinB l (⟨#[32]⟩)) ++ (⟨#[10]⟩ : ByteArray))] hb30 (by kernel_rfl) (bwrite_any b p a c x ((joinB l (⟨#[32]⟩)) ++ (⟨#[10]⟩ : ByteArray)) _ _ _ S3 (by first | assumption | exact .inl rfl | exact .inr rfl) (by rw [size_app]; (have h1_ : (⟨#[10]⟩ : ByteArray).size = 1 := rfl); omega)) ?_
 rintro _ w2 ⟨rfl, ra1, rc1, S4⟩
 replace S4 : Sep w0 (box b [.pointer (some ⟨b, 0, none⟩), .slice ra1 ((ls (x ++ ((joinB l (⟨#[32]⟩)) ++ (⟨#[10]⟩ : ByteArray)))).length) rc1] 68 :: rowOf enc8 ra1 rc1 5 1 (ls (x ++ ((joinB l (⟨#[32]⟩)) ++ (⟨#[10]⟩ : ByteArray)))) :: rowOf (enc1 Value.string) la lc 9 1 l :: L0) w2 := S4
 refine J.run 1 K29_1 [] w2 (by kernel_rfl) ?_
 refine J.done Tryd.f29 [] Tryd.func29 trivial ?_
 refine hR _ _ ?_
 exact ⟨rfl, _, _, _, rfl, S4⟩

end
end Go.Proofs.YthiklimfffhbaaaDoor

