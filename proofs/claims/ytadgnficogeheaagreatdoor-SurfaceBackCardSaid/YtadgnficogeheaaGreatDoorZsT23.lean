/- Walks of functions of this seat, printed by a program over the engine. Conditions: as each theorem says. -/
import Derived.Test.YtadgnficogeheaaGreatDoorZsT22
namespace Go.Proofs.YtadgnficogeheaaGreatDoor
noncomputable section
open Go.Eng Go.RowKit
set_option linter.unusedSimpArgs false
set_option linter.unusedVariables false
theorem hb27 : HasBody Tryz.prog 27 := fun _ _ => by kernel_rfl
def K27_0 := adv 7 [] (bodyOf Tryz.f27)
def K27_1 := adv 2 [] (popK K27_0)
set_option maxRecDepth 20000 in
set_option maxHeartbeats 20000000 in
theorem setrow_any (la : Option Addr) (len cap : Nat) (l : List Int) (w : World) (hI : Ints w la len l) (hsm : len ≤ 4096) : Ret Tryz.prog 27 #[.slice la len cap] w (fun v w' => ∃ a cap, v = .slice a (l).length cap ∧ Sep w [rowOf Eng.encI a cap 3 1 (l)] w') := by
 have S0 := Sep.refl w
 refine Ret.named fun R hR => ?_
 refine Ret.of_J (N := 5) [(0, .slice la len cap)] Tryz.func27 rfl rfl (Nat.le_of_ble_eq_true (by kernel_rfl)) (by kernel_rfl) ?_
 have hll := hI.len_eq
 refine J.run 7 K27_0 [(3, .slice la len cap)] w (by kernel_rfl) ?_
 refine J.callF 4 25 #[.slice la len cap] hb25 (by kernel_rfl) (clone_any la len cap l _ (hI.sep S0) (by omega) (by omega)) ?_
 rintro _ w1 ⟨ra1, rc1, rfl, T1⟩
 have S1 : Sep w [rowOf Eng.encI ra1 rc1 3 1 l] w1 := S0.trans T1
 clear T1
 refine J.run 2 K27_1 [(2, .slice ra1 l.length rc1)] w1 (by kernel_rfl) ?_
 refine J.ret Tryz.f27 [.slice ra1 l.length rc1] Tryz.func27 ⟨by kernel_rfl, trivial⟩ ?_
 refine hR _ _ ?_
 exact ⟨_, _, rfl, S1.pick 0 rfl⟩

theorem clm_tl0 {w0 w : World} {c : Eng.Claim} {T : List Eng.Claim} (A : List Eng.Claim) (S : Sep w0 ((c :: T) ++ A) w) : Sep w0 (c :: (A ++ T)) w :=
  clm_perm6 (List.Perm.cons _ List.perm_append_comm) S
theorem hb26 : HasBody Tryz.prog 26 := fun _ _ => by kernel_rfl
def K26_0 := adv 8 [] (bodyOf Tryz.f26)
def K26_1 := adv 11 [] (popK K26_0)
def K26_2 := adv 5 [] K26_1
def K26_3 := adv 7 [true] K26_2
def K26_4 := adv 8 [] (popK (popK K26_3))
def K26_5 := adv 4 [] (popK (popK (popK K26_4)))
def K26_6 := adv 7 [false] K26_2
set_option maxRecDepth 20000 in
set_option maxHeartbeats 20000000 in
theorem mappedR_any (la : Option Addr) (len cap : Nat) (l : List Rw) (w : World) (hI : Recs rwE 1 w la len l) (hql : ∀ y ∈ l, rwQ w y) (hrl : ∀ y ∈ l, y.gS_n ≤ 4096) (hsm : len ≤ 4096) : Ret Tryz.prog 26 #[.slice la len cap, .func (.func 27) #[] #[]] w (fun v w' => ∃ a c, ∃ out : List Rw, cpQ w l out ∧ v = .slice a out.length c ∧ Sep w (rowOf rwE a c 22 1 out :: tlR out) w') := by
 have S0 := Sep.refl w
 refine Ret.named fun R hR => ?_
 refine Ret.of_J (N := 26) [(0, .slice la len cap), (1, .func (.func 27) #[] #[])] Tryz.func26 rfl rfl (Nat.le_of_ble_eq_true (by kernel_rfl)) (by kernel_rfl) ?_
 have hll := hI.len_eq
 have hrep : (List.replicate len rw0).length = len := List.length_replicate
 refine J.run 8 K26_0 [(9, iv (len : Int)), (0, .slice la len cap), (1, .func (.func 27) #[] #[])] w (by kernel_rfl) ?_
 refine J.make rwE rw0 S0 10 23 22 1 (len : Int) (len : Int) len (.slice none 0 0) 24 (by kernel_rfl) (by omega) (by omega) (by kernel_rfl) (by kernel_rfl) (by kernel_rfl) (by rfl) (by omega) ?_
 intro b1 w1 S1
 refine J.run 11 K26_1 [(13, iv 0), (12, iv (len : Int)), (11, .slice la len cap), (5, .slice (some ⟨b1, 0, none⟩) ((List.replicate len rw0).length) len), (1, .func (.func 27) #[] #[])] w1 (by kernel_rfl) ?_
 have S2 : Sep w (rowOf rwE (some ⟨b1, 0, none⟩) len 22 1 (List.replicate len rw0) :: tlR ((List.replicate len rw0).take (0 : Int).toNat)) w1 := S1
 have L26_1 : ∀ (mm_ : Nat) (ou : List Rw) (i : Int) (w2 : World), (0 ≤ i) → (i ≤ (len : Int)) → ((ou).length = len) → (∀ j, j < (i).toNat → ((ou).getD j rw0).gS_l = (l.getD j rw0).gS_l ∧ okR ((ou).getD j rw0)) → Sep w (rowOf rwE (some ⟨b1, 0, none⟩) len 22 1 ou :: tlR (ou.take (i : Int).toNat)) w2 → ((len : Int) - i).toNat = mm_ → J Tryz.prog 26 26 R K26_1 [(13, iv i), (12, iv (len : Int)), (11, .slice la len cap), (5, .slice (some ⟨b1, 0, none⟩) ((List.replicate len rw0).length) len), (1, .func (.func 27) #[] #[])] w2 := by
  intro mm1
  induction mm1 using Nat.strongRecOn with
  | _ mm1 ih1 =>
  intro ou i w2 h0 h1 hou hq S3 hm1
  refine J.run 5 K26_2 [(14, .bool (decide (i < (len : Int)))), (13, iv i), (12, iv (len : Int)), (11, .slice la len cap), (5, .slice (some ⟨b1, 0, none⟩) ((List.replicate len rw0).length) len), (1, .func (.func 27) #[] #[])] w2 (by kernel_rfl) ?_
  by_cases fk1 : i < (len : Int)
  rotate_left
  ·skip
   refine J.head (.bool false) (congrArg Value.bool (decide_eq_false fk1)) ?_
   refine J.run 7 K26_6 [(4, .slice (some ⟨b1, 0, none⟩) ((List.replicate len rw0).length) len)] w2 (by kernel_rfl) ?_
   refine J.ret Tryz.f26 [.slice (some ⟨b1, 0, none⟩) ((List.replicate len rw0).length) len] Tryz.func26 ⟨by kernel_rfl, trivial⟩ ?_
   refine hR _ _ ?_
   have e_ : ou.take (i : Int).toNat = ou := List.take_of_length_le (by omega)
   rw [e_] at S3
   exact ⟨_, _, ou, cp_of (w0 := w) (by omega) (fun j hj => hq j (by omega)), by rw [tup_one, List.length_replicate, hou], S3⟩
  refine J.head (.bool true) (congrArg Value.bool (decide_eq_true fk1)) ?_
  refine J.run 7 K26_3 [(15, iv i), (13, iv i), (12, iv (len : Int)), (11, .slice la len cap), (5, .slice (some ⟨b1, 0, none⟩) ((List.replicate len rw0).length) len), (1, .func (.func 27) #[] #[])] w2 (by kernel_rfl) ?_
  obtain ⟨p1, hp1, hc1⟩ := hI.at rw0 (i).toNat (by omega)
  refine J.ok (OK.index 16 23 1 la p1 len (i).toNat i (p1.add ((i).toNat * 1)) (by kernel_rfl) (by kernel_rfl) hp1 (by omega) (by omega) rfl) ?_
  refine J.ok (OK.ldCell 17 22 (p1.add ((i).toNat * 1)) (.slice ((l.getD (i).toNat rw0).gS_a) ((l.getD (i).toNat rw0).gS_n) ((l.getD (i).toNat rw0).gS_c)) (by kernel_rfl) (by kernel_rfl) (S3.cell (cell_zero (hc1 0 _ rfl)))) ?_
  refine J.run 8 K26_4 [(21, .slice ((l.getD (i).toNat rw0).gS_a) ((l.getD (i).toNat rw0).gS_n) ((l.getD (i).toNat rw0).gS_c)), (20, .func (.func 27) #[] #[]), (19, iv i), (18, .slice (some ⟨b1, 0, none⟩) ((List.replicate len rw0).length) len), (13, iv i), (12, iv (len : Int)), (11, .slice la len cap), (5, .slice (some ⟨b1, 0, none⟩) ((List.replicate len rw0).length) len), (1, .func (.func 27) #[] #[])] w2 (by kernel_rfl) ?_
  refine J.callF 22 27 #[.slice ((l.getD (i).toNat rw0).gS_a) ((l.getD (i).toNat rw0).gS_n) ((l.getD (i).toNat rw0).gS_c)] hb27 (by kernel_rfl) (setrow_any ((l.getD (i).toNat rw0).gS_a) ((l.getD (i).toNat rw0).gS_n) ((l.getD (i).toNat rw0).gS_c) ((l.getD (i).toNat rw0).gS_l) _ ((getD_Q (Q := rwQ w) hql rw0 (n := (i).toNat) (by omega)).2.1.sep S3) (hrl _ (getD_mem rw0 (by omega)))) ?_
  rintro _ w3 ⟨ra1, rc1, rfl, T1⟩
  have S4 : Sep w (rowOf Eng.encI ra1 rc1 3 1 ((l.getD (i).toNat rw0).gS_l) :: rowOf rwE (some ⟨b1, 0, none⟩) len 22 1 ou :: tlR (ou.take (i : Int).toNat)) w3 := S3.trans T1
  clear T1
  obtain ⟨p2, hp2, hc2⟩ := (rowOf_recs (S4.nth 1 rfl) _ rfl (fun _ => rfl) (by decide)).at rw0 (i).toNat (by omega)
  refine J.ok (OK.index 23 23 1 (some ⟨b1, 0, none⟩) p2 ((List.replicate len rw0).length) (i).toNat i (p2.add ((i).toNat * 1)) (by kernel_rfl) (by kernel_rfl) hp2 (by omega) (by omega) rfl) ?_
  refine J.stRowF S4 1 1 ou 22 (p2.add ((i).toNat * 1)) p2 ((i).toNat) 0 (ou.getD ((i).toNat) rw0) (⟨ra1, (((l.getD (i).toNat rw0).gS_l).length), rc1, (l.getD (i).toNat rw0).gS_l⟩ : Rw) (.slice ra1 (((l.getD (i).toNat rw0).gS_l).length) rc1) rfl (by kernel_rfl) (add_zero6 _) hp2 (getD_some (by first | omega | (simp; omega))) (fun _ _ => rfl) (by decide) rfl rfl rfl (by kernel_rfl) ?_
  intro w4 S5
  replace S5 : Sep w (rowOf Eng.encI ra1 rc1 3 1 ((l.getD (i).toNat rw0).gS_l) :: rowOf rwE (some ⟨b1, 0, none⟩) len 22 1 (ou.set ((i).toNat) (⟨ra1, (((l.getD (i).toNat rw0).gS_l).length), rc1, (l.getD (i).toNat rw0).gS_l⟩ : Rw)) :: tlR (ou.take (i : Int).toNat)) w4 := S5
  have S6 : Sep w (rowOf rwE (some ⟨b1, 0, none⟩) len 22 1 (ou.set ((i).toNat) (⟨ra1, (((l.getD (i).toNat rw0).gS_l).length), rc1, (l.getD (i).toNat rw0).gS_l⟩ : Rw)) :: tlR ((ou.set ((i).toNat) (⟨ra1, (((l.getD (i).toNat rw0).gS_l).length), rc1, (l.getD (i).toNat rw0).gS_l⟩ : Rw)).take ((i + 1) : Int).toNat)) w4 := by rw [tlR_take (out := ou) h0 (by omega)]; exact S5.back 1
  refine J.run 4 K26_5 [(24, iv (IntKind.wrap .i64 (i + 1))), (12, iv (len : Int)), (11, .slice la len cap), (5, .slice (some ⟨b1, 0, none⟩) ((List.replicate len rw0).length) len), (1, .func (.func 27) #[] #[])] w4 (by kernel_rfl) ?_
  refine J.head (iv (i + 1)) (congrArg (Value.int .i64) (IntWalk.i64_in _ (by omega))) ?_
  refine J.run 3 K26_1 [(13, iv (i + 1)), (12, iv (len : Int)), (11, .slice la len cap), (5, .slice (some ⟨b1, 0, none⟩) ((List.replicate len rw0).length) len), (1, .func (.func 27) #[] #[])] w4 (by kernel_rfl) ?_
  refine J.run 0 K26_1 [(13, iv (i + 1)), (12, iv (len : Int)), (11, .slice la len cap), (5, .slice (some ⟨b1, 0, none⟩) ((List.replicate len rw0).length) len), (1, .func (.func 27) #[] #[])] w4 (by kernel_rfl) ?_
  exact ih1 _ (show ((len : Int) - (i + 1)).toNat < mm1 from by omega) (ou.set ((i).toNat) (⟨ra1, (((l.getD (i).toNat rw0).gS_l).length), rc1, (l.getD (i).toNat rw0).gS_l⟩ : Rw)) (i + 1) w4 (by omega) (by omega) (by rw [List.length_set]; exact hou) (cp_step h0 (by omega) hq rfl ⟨rfl, fun y hy => (getD_Q (Q := rwQ w) hql rw0 (n := (i).toNat) (by omega)).2.2.1 y hy⟩) S6 rfl
 exact L26_1 _ (List.replicate len rw0) 0 w1 (by omega) (by omega) (by simp) (by intro j hj; simp at hj) S2 rfl

end
end Go.Proofs.YtadgnficogeheaaGreatDoor

