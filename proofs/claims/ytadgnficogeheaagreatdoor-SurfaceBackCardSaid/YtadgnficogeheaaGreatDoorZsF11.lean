/- Walks of functions of this seat, printed by a program over the engine. Conditions: as each theorem says. -/
import Derived.Test.YtadgnficogeheaaGreatDoorZsF10
namespace Go.Proofs.YtadgnficogeheaaGreatDoor
noncomputable section
open Go.Eng Go.RowKit
set_option linter.unusedSimpArgs false
set_option linter.unusedVariables false
theorem hb25 : HasBody Tryz.prog 25 := fun _ _ => by kernel_rfl
def K25_0 := adv 8 [] (bodyOf Tryz.f25)
def K25_1 := adv 1 [] (popK K25_0)
def K25_2 := adv 5 [true] K25_1
def K25_3 := adv 4 [false] K25_1
def K25_4 := adv 1 [] (popK K25_3)
def K25_5 := adv 2 [] (popK K25_4)
set_option maxRecDepth 20000 in
set_option maxHeartbeats 20000000 in
theorem clone_any (la : Option Addr) (len cap : Nat) (l : List Int) (w : World) (hI : Ints w la len l) (hlen : len ≤ 9223372036854775807) (hsm : len ≤ 4096) : Ret Tryz.prog 25 #[.slice la len cap] w (fun v w' => ∃ a cap, v = .slice a (l).length cap ∧ Sep w [rowOf encI a cap 3 1 (l)] w') := by
 have S0 := Sep.refl w
 refine Ret.named fun R hR => ?_
 refine Ret.of_J (N := 8) [(0, .slice la len cap)] Tryz.func25 rfl rfl (Nat.le_of_ble_eq_true (by kernel_rfl)) (by kernel_rfl) ?_
 have hll := hI.len_eq
 refine J.run 8 K25_0 [(3, .slice la len cap), (0, .slice la len cap)] w (by kernel_rfl) ?_
 refine J.ok (OK.nilS 4 true 22 la (by kernel_rfl) (by kernel_rfl) la.isNone (by simp)) ?_
 refine J.run 1 K25_1 [(4, .bool la.isNone), (0, .slice la len cap)] w (by kernel_rfl) ?_
 rcases Bool.eq_false_or_eq_true la.isNone with fk1 | fk1
 ·skip
  refine J.head (.bool true) (congrArg Value.bool fk1) ?_
  refine J.run 5 K25_2 [(2, .slice none 0 0)] w (by kernel_rfl) ?_
  refine J.ret Tryz.f25 [.slice none 0 0] Tryz.func25 ⟨by kernel_rfl, trivial⟩ ?_
  refine hR _ _ ?_
  have e_ : l = [] := by cases la with | none => exact hI.nil | some p => simp at fk1
  subst e_
  exact ⟨none, 0, rfl, S0.nilRow 3 1⟩
 refine J.head (.bool false) (congrArg Value.bool fk1) ?_
 refine J.run 4 K25_3 [(0, .slice la len cap)] w (by kernel_rfl) ?_
 refine J.newSlice S0 5 0 [] 3 (by kernel_rfl) ?_
 intro b1 w1 S1
 refine J.run 1 K25_4 [(6, .slice la len cap), (5, .slice (some ⟨b1, 0, none⟩) 0 0)] w1 (by kernel_rfl) ?_
 have S2 : Sep w [rowOf encI (some ⟨b1, 0, none⟩) 0 3 1 ([])] w1 := box_row encI S1 0 [] 1 rfl rfl rfl (by simp [maxLen]) (.inr trivial)
 have hz1 := hI.sep S2
 have := hz1.len_eq
 refine J.appendN encI S2 0 ([]) l len (by first | omega | (simp; omega)) 7 22 (.int .i64 0) 8 la cap rfl (by kernel_rfl) (by kernel_rfl) (by kernel_rfl) (by kernel_rfl) (by decide) (hI.sep S2).enc (fun h_ => Ones.nil (h_ ▸ hz1)) (fun _ => rfl) (fun _ => rfl) (⟨by first | omega | (simp; omega), by first | omega | (simp; omega)⟩) ?_
 intro ra1 rc1 w2 S3
 replace S3 : Sep w [rowOf encI ra1 rc1 3 1 l] w2 := S3
 refine J.run 2 K25_5 [(2, .slice ra1 l.length rc1)] w2 (by kernel_rfl) ?_
 refine J.ret Tryz.f25 [.slice ra1 l.length rc1] Tryz.func25 ⟨by kernel_rfl, trivial⟩ ?_
 refine hR _ _ ?_
 exact ⟨_, _, rfl, S3.pick 0 rfl⟩

end
end Go.Proofs.YtadgnficogeheaaGreatDoor

