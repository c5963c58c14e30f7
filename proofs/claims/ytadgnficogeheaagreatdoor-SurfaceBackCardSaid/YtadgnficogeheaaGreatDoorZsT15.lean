/- Walks of functions of this seat, printed by a program over the engine. Conditions: as each theorem says. -/
import Derived.Test.YtadgnficogeheaaGreatDoorZsT14
namespace Go.Proofs.YtadgnficogeheaaGreatDoor
noncomputable section
open Go.Eng Go.RowKit
set_option linter.unusedSimpArgs false
set_option linter.unusedVariables false
theorem hb39 : HasBody Tryz.prog 39 := fun _ _ => by kernel_rfl
def K39_0 := adv 8 [] (bodyOf Tryz.f39)
def K39_1 := adv 11 [] (popK K39_0)
def K39_2 := adv 5 [] K39_1
def K39_3 := adv 7 [true] K39_2
def K39_4 := adv 8 [] (popK (popK K39_3))
def K39_5 := adv 4 [] (popK (popK (popK K39_4)))
def K39_6 := adv 7 [false] K39_2
set_option maxRecDepth 20000 in
set_option maxHeartbeats 20000000 in
theorem mappedS (la : Option Addr) (len cap : Nat) (l : List Int) (g : FuncId) (q : Int → ByteArray) (w : World) (hI : Ints w la len l) (hsm : len ≤ 16777216) (hbg : HasBody Tryz.prog g) (hcall : ∀ (i : Nat) (w2 : World), i < l.length → Sep w [] w2 → Ret Tryz.prog g #[iv (l.getD i 0)] w2 (fun v w3 => v = .string (q (l.getD i 0)) ∧ Sep w2 [] w3)) : Ret Tryz.prog 39 #[.slice la len cap, .func (.func g) #[] #[]] w (fun v w' => ∃ a cap, v = .slice a (l.map q).length cap ∧ Sep w [rowOf (enc1 Value.string) a cap 9 1 (l.map q)] w') := by
 have S0 := Sep.refl w
 refine Ret.named fun R hR => ?_
 refine Ret.of_J (N := 26) [(0, .slice la len cap), (1, .func (.func g) #[] #[])] Tryz.func39 rfl rfl (Nat.le_of_ble_eq_true (by kernel_rfl)) (by kernel_rfl) ?_
 have hll := hI.len_eq
 refine J.run 8 K39_0 [(9, iv (len : Int)), (0, .slice la len cap), (1, .func (.func g) #[] #[])] w (by kernel_rfl) ?_
 refine J.make (enc1 Value.string) ByteArray.empty S0 10 41 9 1 (len : Int) (len : Int) len (.string ByteArray.empty) 16 (by kernel_rfl) (by omega) (by omega) (by kernel_rfl) (by kernel_rfl) (by kernel_rfl) (by rfl) (by omega) ?_
 intro b1 w1 S1
 refine J.run 11 K39_1 [(13, iv 0), (12, iv (len : Int)), (11, .slice la len cap), (5, .slice (some ⟨b1, 0, none⟩) ((List.replicate len ByteArray.empty).length) len), (1, .func (.func g) #[] #[])] w1 (by kernel_rfl) ?_
 have L39_1 : ∀ (mm_ : Nat) (ls : List ByteArray) (i : Int) (w2 : World), (0 ≤ i) → (i ≤ (len : Int)) → ((ls).length = len) → (∀ j, j < (i).toNat → (ls).getD j ByteArray.empty = q (l.getD j 0)) → Sep w [rowOf (enc1 Value.string) (some ⟨b1, 0, none⟩) len 9 1 ls] w2 → ((len : Int) - i).toNat = mm_ → J Tryz.prog 39 26 R K39_1 [(13, iv i), (12, iv (len : Int)), (11, .slice la len cap), (5, .slice (some ⟨b1, 0, none⟩) ((List.replicate len ByteArray.empty).length) len), (1, .func (.func g) #[] #[])] w2 := by
  intro mm1
  induction mm1 using Nat.strongRecOn with
  | _ mm1 ih1 =>
  intro ls i w2 h0 h1 hls hq S2 hm1
  refine J.run 5 K39_2 [(14, .bool (decide (i < (len : Int)))), (13, iv i), (12, iv (len : Int)), (11, .slice la len cap), (5, .slice (some ⟨b1, 0, none⟩) ((List.replicate len ByteArray.empty).length) len), (1, .func (.func g) #[] #[])] w2 (by kernel_rfl) ?_
  by_cases fk1 : i < (len : Int)
  rotate_left
  ·skip
   refine J.head (.bool false) (congrArg Value.bool (decide_eq_false fk1)) ?_
   refine J.run 7 K39_6 [(4, .slice (some ⟨b1, 0, none⟩) ((List.replicate len ByteArray.empty).length) len)] w2 (by kernel_rfl) ?_
   refine J.ret Tryz.f39 [.slice (some ⟨b1, 0, none⟩) ((List.replicate len ByteArray.empty).length) len] Tryz.func39 ⟨by kernel_rfl, trivial⟩ ?_
   refine hR _ _ ?_
   have e_ : ls = l.map q := extG ByteArray.empty (by rw [List.length_map]; omega) fun k hk => by rw [hq k (by omega), mapG_getD 0 ByteArray.empty (by omega)]
   subst e_
   exact ⟨_, _, by rw [tup_one, List.length_replicate, List.length_map, hll], S2.pick 0 rfl⟩
  refine J.head (.bool true) (congrArg Value.bool (decide_eq_true fk1)) ?_
  refine J.run 7 K39_3 [(15, iv i), (13, iv i), (12, iv (len : Int)), (11, .slice la len cap), (5, .slice (some ⟨b1, 0, none⟩) ((List.replicate len ByteArray.empty).length) len), (1, .func (.func g) #[] #[])] w2 (by kernel_rfl) ?_
  obtain ⟨p1, hp1, hc1⟩ := hI.at 0 (i).toNat (by omega)
  refine J.ok (OK.index 16 22 1 la p1 len (i).toNat i (p1.add (i).toNat) (by kernel_rfl) (by kernel_rfl) hp1 (by omega) (by omega) (by rw [Nat.mul_one])) ?_
  refine J.ok (OK.ldCell 17 3 (p1.add (i).toNat) (iv (l.getD (i).toNat 0)) (by kernel_rfl) (by kernel_rfl) (S2.cell hc1)) ?_
  refine J.run 8 K39_4 [(21, iv (l.getD (i).toNat 0)), (20, .func (.func g) #[] #[]), (19, iv i), (18, .slice (some ⟨b1, 0, none⟩) ((List.replicate len ByteArray.empty).length) len), (13, iv i), (12, iv (len : Int)), (11, .slice la len cap), (5, .slice (some ⟨b1, 0, none⟩) ((List.replicate len ByteArray.empty).length) len), (1, .func (.func g) #[] #[])] w2 (by kernel_rfl) ?_
  refine J.callF 22 g #[iv (l.getD (i).toNat 0)] hbg (by kernel_rfl) (hcall (i).toNat w2 (by omega) S2.nil) ?_
  rintro _ w3 ⟨rfl, T1⟩
  have S3 : Sep w [rowOf (enc1 Value.string) (some ⟨b1, 0, none⟩) len 9 1 ls] w3 := S2.trans T1
  obtain ⟨p2, hp2⟩ := row1_addr (S3.nth 0 rfl) (show 0 < (ls).length by first | omega | (simp; omega))
  refine J.ok (OK.index 23 41 1 (some ⟨b1, 0, none⟩) p2 ((List.replicate len ByteArray.empty).length) (i).toNat i (p2.add (i).toNat) (by kernel_rfl) (by kernel_rfl) hp2 (by omega) (by first | omega | (simp; omega)) (by rw [Nat.mul_one])) ?_
  refine J.stRow1 Value.string string_one S3 0 ls 9 p2 (i).toNat (q (l.getD (i).toNat 0)) rfl (by kernel_rfl) hp2 (by first | omega | (simp; omega)) (by kernel_rfl) ?_
  intro w4 S4
  replace S4 : Sep w [rowOf (enc1 Value.string) (some ⟨b1, 0, none⟩) len 9 1 (ls.set (i).toNat (q (l.getD (i).toNat 0)))] w4 := S4
  refine J.run 4 K39_5 [(24, iv (IntKind.wrap .i64 (i + 1))), (12, iv (len : Int)), (11, .slice la len cap), (5, .slice (some ⟨b1, 0, none⟩) ((List.replicate len ByteArray.empty).length) len), (1, .func (.func g) #[] #[])] w4 (by kernel_rfl) ?_
  refine J.head (iv (i + 1)) (congrArg (Value.int .i64) (IntWalk.i64_in _ (by omega))) ?_
  refine J.run 3 K39_1 [(13, iv (i + 1)), (12, iv (len : Int)), (11, .slice la len cap), (5, .slice (some ⟨b1, 0, none⟩) ((List.replicate len ByteArray.empty).length) len), (1, .func (.func g) #[] #[])] w4 (by kernel_rfl) ?_
  refine J.run 0 K39_1 [(13, iv (i + 1)), (12, iv (len : Int)), (11, .slice la len cap), (5, .slice (some ⟨b1, 0, none⟩) ((List.replicate len ByteArray.empty).length) len), (1, .func (.func g) #[] #[])] w4 (by kernel_rfl) ?_
  exact ih1 _ (show ((len : Int) - (i + 1)).toNat < mm1 from by omega) (ls.set (i).toNat (q (l.getD (i).toNat 0))) (i + 1) w4 (by omega) (by omega) (by rw [List.length_set]; exact hls) (by intro j hj; by_cases e : j = i.toNat; (subst e; exact setG_at (by omega)); (rw [setG_ne (fun h => e h.symm)]; exact hq j (by omega))) S4 rfl
 exact L39_1 _ (List.replicate len ByteArray.empty) 0 w1 (by omega) (by omega) (by simp) (by intro j hj; simp at hj) S1 rfl

theorem hb35 : HasBody Tryz.prog 35 := fun _ _ => by kernel_rfl
def K35_0 := adv 8 [] (bodyOf Tryz.f35)
def K35_1 := adv 11 [] (popK K35_0)
def K35_2 := adv 5 [] K35_1
def K35_3 := adv 7 [true] K35_2
def K35_4 := adv 8 [] (popK (popK K35_3))
def K35_5 := adv 4 [] (popK (popK (popK K35_4)))
def K35_6 := adv 7 [false] K35_2
set_option maxRecDepth 20000 in
set_option maxHeartbeats 20000000 in
theorem mappedN (la : Option Addr) (len cap : Nat) (l : List ByteArray) (g : FuncId) (q : ByteArray → Int) (w : World) (hI : Ones Value.string w la len l) (hsm : len ≤ 16777216) (hbg : HasBody Tryz.prog g) (hcall : ∀ (i : Nat) (w2 : World), i < l.length → Sep w [] w2 → Ret Tryz.prog g #[.string (l.getD i ByteArray.empty)] w2 (fun v w3 => v = iv (q (l.getD i ByteArray.empty)) ∧ Sep w2 [] w3)) : Ret Tryz.prog 35 #[.slice la len cap, .func (.func g) #[] #[]] w (fun v w' => ∃ a cap, v = .slice a (l.map q).length cap ∧ Sep w [rowOf Eng.encI a cap 3 1 (l.map q)] w') := by
 have S0 := Sep.refl w
 refine Ret.named fun R hR => ?_
 refine Ret.of_J (N := 26) [(0, .slice la len cap), (1, .func (.func g) #[] #[])] Tryz.func35 rfl rfl (Nat.le_of_ble_eq_true (by kernel_rfl)) (by kernel_rfl) ?_
 have hll := hI.len_eq
 refine J.run 8 K35_0 [(9, iv (len : Int)), (0, .slice la len cap), (1, .func (.func g) #[] #[])] w (by kernel_rfl) ?_
 refine J.make Eng.encI (0 : Int) S0 10 22 3 1 (len : Int) (len : Int) len (iv 0) 8 (by kernel_rfl) (by omega) (by omega) (by kernel_rfl) (by kernel_rfl) (by kernel_rfl) (by rfl) (by omega) ?_
 intro b1 w1 S1
 refine J.run 11 K35_1 [(13, iv 0), (12, iv (len : Int)), (11, .slice la len cap), (5, .slice (some ⟨b1, 0, none⟩) ((List.replicate len (0 : Int)).length) len), (1, .func (.func g) #[] #[])] w1 (by kernel_rfl) ?_
 have L35_1 : ∀ (mm_ : Nat) (ls : List Int) (i : Int) (w2 : World), (0 ≤ i) → (i ≤ (len : Int)) → ((ls).length = len) → (∀ j, j < (i).toNat → (ls).getD j (0 : Int) = q (l.getD j ByteArray.empty)) → Sep w [rowOf Eng.encI (some ⟨b1, 0, none⟩) len 3 1 ls] w2 → ((len : Int) - i).toNat = mm_ → J Tryz.prog 35 26 R K35_1 [(13, iv i), (12, iv (len : Int)), (11, .slice la len cap), (5, .slice (some ⟨b1, 0, none⟩) ((List.replicate len (0 : Int)).length) len), (1, .func (.func g) #[] #[])] w2 := by
  intro mm1
  induction mm1 using Nat.strongRecOn with
  | _ mm1 ih1 =>
  intro ls i w2 h0 h1 hls hq S2 hm1
  refine J.run 5 K35_2 [(14, .bool (decide (i < (len : Int)))), (13, iv i), (12, iv (len : Int)), (11, .slice la len cap), (5, .slice (some ⟨b1, 0, none⟩) ((List.replicate len (0 : Int)).length) len), (1, .func (.func g) #[] #[])] w2 (by kernel_rfl) ?_
  by_cases fk1 : i < (len : Int)
  rotate_left
  ·skip
   refine J.head (.bool false) (congrArg Value.bool (decide_eq_false fk1)) ?_
   refine J.run 7 K35_6 [(4, .slice (some ⟨b1, 0, none⟩) ((List.replicate len (0 : Int)).length) len)] w2 (by kernel_rfl) ?_
   refine J.ret Tryz.f35 [.slice (some ⟨b1, 0, none⟩) ((List.replicate len (0 : Int)).length) len] Tryz.func35 ⟨by kernel_rfl, trivial⟩ ?_
   refine hR _ _ ?_
   have e_ : ls = l.map q := extG (0 : Int) (by rw [List.length_map]; omega) fun k hk => by rw [hq k (by omega), mapG_getD ByteArray.empty (0 : Int) (by omega)]
   subst e_
   exact ⟨_, _, by rw [tup_one, List.length_replicate, List.length_map, hll], S2.pick 0 rfl⟩
  refine J.head (.bool true) (congrArg Value.bool (decide_eq_true fk1)) ?_
  refine J.run 7 K35_3 [(15, iv i), (13, iv i), (12, iv (len : Int)), (11, .slice la len cap), (5, .slice (some ⟨b1, 0, none⟩) ((List.replicate len (0 : Int)).length) len), (1, .func (.func g) #[] #[])] w2 (by kernel_rfl) ?_
  obtain ⟨p1, hp1, hc1⟩ := hI.at ByteArray.empty (i).toNat (by omega)
  refine J.ok (OK.index 16 41 1 la p1 len (i).toNat i (p1.add (i).toNat) (by kernel_rfl) (by kernel_rfl) hp1 (by omega) (by omega) (by rw [Nat.mul_one])) ?_
  refine J.ok (OK.ldCell 17 9 (p1.add (i).toNat) (.string (l.getD (i).toNat ByteArray.empty)) (by kernel_rfl) (by kernel_rfl) (S2.cell hc1)) ?_
  refine J.run 8 K35_4 [(21, .string (l.getD (i).toNat ByteArray.empty)), (20, .func (.func g) #[] #[]), (19, iv i), (18, .slice (some ⟨b1, 0, none⟩) ((List.replicate len (0 : Int)).length) len), (13, iv i), (12, iv (len : Int)), (11, .slice la len cap), (5, .slice (some ⟨b1, 0, none⟩) ((List.replicate len (0 : Int)).length) len), (1, .func (.func g) #[] #[])] w2 (by kernel_rfl) ?_
  refine J.callF 22 g #[.string (l.getD (i).toNat ByteArray.empty)] hbg (by kernel_rfl) (hcall (i).toNat w2 (by omega) S2.nil) ?_
  rintro _ w3 ⟨rfl, T1⟩
  have S3 : Sep w [rowOf Eng.encI (some ⟨b1, 0, none⟩) len 3 1 ls] w3 := S2.trans T1
  obtain ⟨p2, hp2⟩ := row1_addr (S3.nth 0 rfl) (show 0 < (ls).length by first | omega | (simp; omega))
  refine J.ok (OK.index 23 22 1 (some ⟨b1, 0, none⟩) p2 ((List.replicate len (0 : Int)).length) (i).toNat i (p2.add (i).toNat) (by kernel_rfl) (by kernel_rfl) hp2 (by omega) (by first | omega | (simp; omega)) (by rw [Nat.mul_one])) ?_
  refine J.stRow1 (Value.int .i64) (int_one _) S3 0 ls 3 p2 (i).toNat (q (l.getD (i).toNat ByteArray.empty)) rfl (by kernel_rfl) hp2 (by first | omega | (simp; omega)) (by kernel_rfl) ?_
  intro w4 S4
  replace S4 : Sep w [rowOf Eng.encI (some ⟨b1, 0, none⟩) len 3 1 (ls.set (i).toNat (q (l.getD (i).toNat ByteArray.empty)))] w4 := S4
  refine J.run 4 K35_5 [(24, iv (IntKind.wrap .i64 (i + 1))), (12, iv (len : Int)), (11, .slice la len cap), (5, .slice (some ⟨b1, 0, none⟩) ((List.replicate len (0 : Int)).length) len), (1, .func (.func g) #[] #[])] w4 (by kernel_rfl) ?_
  refine J.head (iv (i + 1)) (congrArg (Value.int .i64) (IntWalk.i64_in _ (by omega))) ?_
  refine J.run 3 K35_1 [(13, iv (i + 1)), (12, iv (len : Int)), (11, .slice la len cap), (5, .slice (some ⟨b1, 0, none⟩) ((List.replicate len (0 : Int)).length) len), (1, .func (.func g) #[] #[])] w4 (by kernel_rfl) ?_
  refine J.run 0 K35_1 [(13, iv (i + 1)), (12, iv (len : Int)), (11, .slice la len cap), (5, .slice (some ⟨b1, 0, none⟩) ((List.replicate len (0 : Int)).length) len), (1, .func (.func g) #[] #[])] w4 (by kernel_rfl) ?_
  exact ih1 _ (show ((len : Int) - (i + 1)).toNat < mm1 from by omega) (ls.set (i).toNat (q (l.getD (i).toNat ByteArray.empty))) (i + 1) w4 (by omega) (by omega) (by rw [List.length_set]; exact hls) (by intro j hj; by_cases e : j = i.toNat; (subst e; exact setG_at (by omega)); (rw [setG_ne (fun h => e h.symm)]; exact hq j (by omega))) S4 rfl
 exact L35_1 _ (List.replicate len (0 : Int)) 0 w1 (by omega) (by omega) (by simp) (by intro j hj; simp at hj) S1 rfl

theorem hb38 : HasBody Tryz.prog 38 := fun _ _ => by kernel_rfl
theorem join_any (la : Option Addr) (len cap : Nat) (l : List ByteArray) (sep : ByteArray) (w : World) (hI : Ones Value.string w la len l) (hp : ∀ p, la = some p → p = ⟨p.block, 0, none⟩) (hcap : len ≤ cap) (hN : len ≤ 140737488355328) (hs : (joinB l sep).size ≤ 140737488355328) :
    Ret Tryz.prog 38 #[.slice la len cap, .string sep] w (fun v w' => v = .string (joinB l sep) ∧ Sep w [] w') := by
  have hll := hI.len_eq
  by_cases h0 : len = 0
  · subst h0
    have hl : l = [] := List.eq_nil_of_length_eq_zero hll
    subst hl
    exact Ret.of_calls (Tryz.strings_Join_none la cap sep w) fun w' e => ⟨rfl, by subst e; exact .refl _⟩
  · obtain ⟨p, rfl, hc⟩ := hI.at ByteArray.empty 0 (by omega)
    have e := hp p rfl
    have hb := World.block_lt_of_cell? _ _ hc
    generalize hbk : p.block = bk at e
    subst e; subst hll
    exact Ret.of_calls (Tryz.strings_Join bk 0 cap l sep w (fun j x hx => by
      obtain ⟨q, hq, hcq⟩ := hI.cells j (Value.string x) (by rw [List.getElem?_map, hx]; rfl)
      cases hq; rw [add_plain] at hcq; exact hcq) hb hN hcap (by have h : (Lib.join (l.map (·.data.toList)) sep.data.toList).toArray.size ≤ 140737488355328 := hs; rw [List.size_toArray] at h; exact h)) fun w' hb => ⟨rfl, .of_below hb⟩
theorem hb19 : HasBody Tryz.prog 19 := fun _ _ => by kernel_rfl
def K19_0 := adv 7 [] (bodyOf Tryz.f19)
def K19_1 := adv 1 [] (popK K19_0)
def K19_2 := adv 2 [] (popK (popK (popK (popK K19_1))))
set_option maxRecDepth 20000 in
set_option maxHeartbeats 20000000 in
theorem line_any (wd : ByteArray) (la : Option Addr) (len cap : Nat) (l : List Int) (w : World) (hI : Ints w la len l) (hlen : len ≤ 4096) (hq : ∀ y ∈ l, -9223372036854775808 ≤ y ∧ y ≤ 9223372036854775807) (hwd : wd.size ≤ 10) (hW : TabW w) : Ret Tryz.prog 19 #[.string wd, .slice la len cap] w (fun v w' => v = .string (lnT wd l) ∧ Sep w [] w') := by
 have S0 := Sep.refl w
 refine Ret.named fun R hR => ?_
 refine Ret.of_J (N := 12) [(0, .string wd), (1, .slice la len cap)] Tryz.func19 rfl rfl (Nat.le_of_ble_eq_true (by kernel_rfl)) (by kernel_rfl) ?_
 have hll := hI.len_eq
 have hjs : (joinB (List.map itoaB l) (⟨#[32]⟩ : ByteArray)).size ≤ 102400 := by have := joinI_size hq; omega
 have hls : (List.map itoaB l).length ≤ 4096 := by rw [List.length_map]; omega
 refine J.run 7 K19_0 [(5, .string wd), (1, .slice la len cap)] w (by kernel_rfl) ?_
 refine J.ok (OK.cat 6 wd (⟨#[32]⟩ : ByteArray) (wd ++ (⟨#[32]⟩ : ByteArray)) (by kernel_rfl) (by (simp only [ByteArray.size_append, lit_size, List.size_toArray, List.length_cons, List.length_nil]; omega)) (rfl)) ?_
 refine J.run 1 K19_1 [(7, .slice la len cap), (6, .string (wd ++ (⟨#[32]⟩ : ByteArray)))] w (by kernel_rfl) ?_
 refine J.callF 8 39 #[.slice la len cap, .func (.func 40) #[] #[]] hb39 (by kernel_rfl) (mappedS la len cap l 40 itoaB _ (hI.sep S0) (by omega) hb40 (fun i_ w_ hi_ S_ => atext_any _ w_ (hq _ (getD_mem 0 hi_)) (tabW_sep (tabW_sep hW S0) S_))) ?_
 rintro _ w1 ⟨ra1, rc1, rfl, T1⟩
 have S1 : Sep w [rowOf (enc1 Value.string) ra1 rc1 9 1 (List.map itoaB l)] w1 := S0.trans T1
 refine J.callF 9 38 #[.slice ra1 ((List.map itoaB l).length) rc1, .string ⟨#[32]⟩] hb38 (by kernel_rfl) (join_any ra1 ((List.map itoaB l).length) rc1 (List.map itoaB l) (⟨#[32]⟩) _ (row1_ones (S1.nth 0 rfl) _ rfl) (rowOf_plain (S1.nth 0 rfl)) (rowOf_cells (S1.nth 0 rfl)).2.2 (by omega) (by omega)) ?_
 rintro _ w2 ⟨rfl, T2⟩
 have S2 : Sep w [rowOf (enc1 Value.string) ra1 rc1 9 1 (List.map itoaB l)] w2 := S1.trans T2
 clear T2 S1
 refine J.ok (OK.cat 10 (wd ++ (⟨#[32]⟩ : ByteArray)) (joinB (List.map itoaB l) (⟨#[32]⟩)) ((wd ++ (⟨#[32]⟩ : ByteArray)) ++ (joinB (List.map itoaB l) (⟨#[32]⟩))) (by kernel_rfl) (by (simp only [ByteArray.size_append, lit_size, List.size_toArray, List.length_cons, List.length_nil]; omega)) (rfl)) ?_
 refine J.ok (OK.cat 11 ((wd ++ (⟨#[32]⟩ : ByteArray)) ++ (joinB (List.map itoaB l) (⟨#[32]⟩))) (⟨#[10]⟩ : ByteArray) (((wd ++ (⟨#[32]⟩ : ByteArray)) ++ (joinB (List.map itoaB l) (⟨#[32]⟩))) ++ (⟨#[10]⟩ : ByteArray)) (by kernel_rfl) (by (simp only [ByteArray.size_append, lit_size, List.size_toArray, List.length_cons, List.length_nil]; omega)) (rfl)) ?_
 refine J.run 2 K19_2 [(4, .string (((wd ++ (⟨#[32]⟩ : ByteArray)) ++ (joinB (List.map itoaB l) (⟨#[32]⟩))) ++ (⟨#[10]⟩ : ByteArray)))] w2 (by kernel_rfl) ?_
 refine J.ret Tryz.f19 [.string (((wd ++ (⟨#[32]⟩ : ByteArray)) ++ (joinB (List.map itoaB l) (⟨#[32]⟩))) ++ (⟨#[10]⟩ : ByteArray))] Tryz.func19 ⟨by kernel_rfl, trivial⟩ ?_
 refine hR _ _ ?_
 exact ⟨rfl, S2.nil⟩

def txM (m : Mp) : ByteArray := if validM m then txV (mvM m) else ByteArray.empty
theorem bd_in {l : List Int} (h : ∀ j, j < l.length → -1073741824 ≤ l.getD j 0 ∧ l.getD j 0 ≤ 1073741824) : ∀ y ∈ l, -9223372036854775808 ≤ y ∧ y ≤ 9223372036854775807 := fun y hy => by
  obtain ⟨j, hj, rfl⟩ := List.mem_iff_getElem.1 hy
  have := h j hj
  rw [List.getD_eq_getElem?_getD, List.getElem?_eq_getElem hj] at this
  have h2 : -1073741824 ≤ l[j] ∧ l[j] ≤ 1073741824 := this
  omega
theorem zl_take (m : Mp) (i : Nat) : (m.gZ_l.map fun r => r.gS_l).getD i [] = (m.gZ_l.getD i rw0).gS_l := zl_at m i
theorem hb7 : HasBody Tryz.prog 7 := fun _ _ => by kernel_rfl
def K7_0 := adv 2 [] (bodyOf Tryz.f7)
def K7_1 := adv 5 [] (popK K7_0)
def K7_2 := adv 2 [] (popK (popK K7_1))
def K7_3 := adv 3 [false] K7_2
def K7_4 := adv 4 [] (rRest K7_3)
def K7_5 := adv 5 [] (popK K7_4)
def K7_6 := adv 5 [] K7_5
def K7_7 := adv 6 [true] K7_6
def K7_8 := adv 5 [] (popK (popK K7_7))
def K7_9 := adv 5 [] (popK (popK K7_8))
def K7_10 := adv 7 [false] K7_6
def K7_11 := adv 5 [true] K7_2
set_option maxRecDepth 20000 in
set_option maxHeartbeats 20000000 in
theorem text6_any (m : Mp) (w : World) (hm : mpQ w m) (hW : TabW w) : Ret Tryz.prog 7 #[.agg #[.slice m.gX_a m.gX_n m.gX_c, .slice m.gY_a m.gY_n m.gY_c, .slice m.gZ_a m.gZ_n m.gZ_c]] w (fun v w' => v = .string (txM m) ∧ Sep w [] w') := by
 have S0 := Sep.refl w
 refine Ret.named fun R hR => ?_
 refine Ret.of_J (N := 29) [(0, .agg #[.slice m.gX_a m.gX_n m.gX_c, .slice m.gY_a m.gY_n m.gY_c, .slice m.gZ_a m.gZ_n m.gZ_c])] Tryz.func7 rfl rfl (Nat.le_of_ble_eq_true (by kernel_rfl)) (by kernel_rfl) ?_
 obtain ⟨q1, q2, q3, q4, q5, q6, q7, q8, q9, _⟩ := id hm
 have ql1 := q2.len_eq
 have ql2 := q5.len_eq
 have ql3 := q8.len_eq
 refine J.run 2 K7_0 [(0, .agg #[.slice m.gX_a m.gX_n m.gX_c, .slice m.gY_a m.gY_n m.gY_c, .slice m.gZ_a m.gZ_n m.gZ_c])] w (by kernel_rfl) ?_
 refine J.new S0 1 [.slice m.gX_a m.gX_n m.gX_c, .slice m.gY_a m.gY_n m.gY_c, .slice m.gZ_a m.gZ_n m.gZ_c] 25 (by kernel_rfl) ?_
 intro b1 w1 S1
 refine J.run 5 K7_1 [(1, .pointer (some ⟨b1, 0, none⟩))] w1 (by kernel_rfl) ?_
 refine J.ok (OK.ldBox S1 0 6 25 0 (.agg #[.slice m.gX_a m.gX_n m.gX_c, .slice m.gY_a m.gY_n m.gY_c, .slice m.gZ_a m.gZ_n m.gZ_c]) (by kernel_rfl) rfl (by kernel_rfl)) ?_
 refine J.callF 7 8 #[.agg #[.slice m.gX_a m.gX_n m.gX_c, .slice m.gY_a m.gY_n m.gY_c, .slice m.gZ_a m.gZ_n m.gZ_c]] hb8 (by kernel_rfl) (valid_any m _ (mpQ_sep hm S1)) ?_
 rintro _ w2 ⟨rfl, T1⟩
 have S2 : Sep w [box b1 [.slice m.gX_a m.gX_n m.gX_c, .slice m.gY_a m.gY_n m.gY_c, .slice m.gZ_a m.gZ_n m.gZ_c] 25] w2 := S1.trans T1
 clear T1 S1
 refine J.run 2 K7_2 [(8, .bool (!(validM m))), (1, .pointer (some ⟨b1, 0, none⟩))] w2 (by kernel_rfl) ?_
 rcases Bool.eq_false_or_eq_true (validM m) with fk1 | fk1
 rotate_left
 ·skip
  refine J.head (.bool true) (congrArg Value.bool (by rw [fk1]; rfl)) ?_
  refine J.run 5 K7_11 [(2, .string ByteArray.empty)] w2 (by kernel_rfl) ?_
  refine J.ret Tryz.f7 [.string ByteArray.empty] Tryz.func7 ⟨by kernel_rfl, trivial⟩ ?_
  refine hR _ _ ?_
  exact ⟨by unfold txM; rw [fk1]; rfl, S2.nil⟩
 refine J.head (.bool false) (congrArg Value.bool (by rw [fk1]; rfl)) ?_
 have hv := fk1
 obtain ⟨hv1, hv2, hv3, hv4⟩ := valid_facts fk1
 obtain ⟨hx1, hx2, hx3⟩ := axis_facts hv1
 obtain ⟨hy1, hy2, hy3⟩ := axis_facts hv2
 refine J.run 3 K7_3 [(1, .pointer (some ⟨b1, 0, none⟩))] w2 (by kernel_rfl) ?_
 refine J.drawPlan (fun w_ => Sep w [box b1 [.slice m.gX_a m.gX_n m.gX_c, .slice m.gY_a m.gY_n m.gY_c, .slice m.gZ_a m.gZ_n m.gZ_c] 25] w_) [(0, true), (1, true), (3, true), (4, true), (2, false), (5, false), (6, true), (7, true)] S2 Tryz.mixed (by kernel_rfl) (planOK_of (T := [(0, some 9, 2), (1, some 10, 512), (2, some 11, 1024), (0, some 12, 2), (8, some 13, 4096), (20, some 14, 8192), (36, some 15, 18432), (127, some 3, 32768)]) (by kernel_rfl) (by kernel_rfl)) ?_
 intro w3 S3
 refine PB.mk S3 ?_
 refine PL.take 0 9 (.pointer (some ⟨b1, 0, none⟩)) (fun _ _ => by kernel_rfl) ?_
 refine PL.takeOK 1 (fun w_ S_ => OK.ldBox S_ 0 10 22 0 (.slice m.gX_a m.gX_n m.gX_c) (by kernel_rfl) rfl (by kernel_rfl)) rfl ?_
 refine PL.take 3 12 (.pointer (some ⟨b1, 1, none⟩)) (fun _ _ => by kernel_rfl) ?_
 refine PL.takeOK 4 (fun w_ S_ => OK.ldBox S_ 0 13 22 1 (.slice m.gY_a m.gY_n m.gY_c) (by kernel_rfl) rfl (by kernel_rfl)) rfl ?_
 have := lnT_size (wd := (⟨#[120]⟩ : ByteArray)) (l := m.gX_l) (by decide) (by omega) (bd_in hx2)
 refine PL.callF 11 19 #[.string ⟨#[120]⟩, .slice m.gX_a m.gX_n m.gX_c] hb19 (by kernel_rfl) (line_any (⟨#[120]⟩ : ByteArray) m.gX_a m.gX_n m.gX_c m.gX_l _ (q2.sep S3) (by omega) (bd_in hx2) (by decide) (tabW_sep hW S3)) ?_
 rintro _ w4 ⟨rfl, T2⟩
 have S4 : Sep w [box b1 [.slice m.gX_a m.gX_n m.gX_c, .slice m.gY_a m.gY_n m.gY_c, .slice m.gZ_a m.gZ_n m.gZ_c] 25] w4 := S3.trans T2
 clear T2 S3
 refine PB.mk S4 ?_
 have := lnT_size (wd := (⟨#[121]⟩ : ByteArray)) (l := m.gY_l) (by decide) (by omega) (bd_in hy2)
 refine PL.callF 14 19 #[.string ⟨#[121]⟩, .slice m.gY_a m.gY_n m.gY_c] hb19 (by kernel_rfl) (line_any (⟨#[121]⟩ : ByteArray) m.gY_a m.gY_n m.gY_c m.gY_l _ (q5.sep S4) (by omega) (bd_in hy2) (by decide) (tabW_sep hW S4)) ?_
 rintro _ w5 ⟨rfl, T3⟩
 have S5 : Sep w [box b1 [.slice m.gX_a m.gX_n m.gX_c, .slice m.gY_a m.gY_n m.gY_c, .slice m.gZ_a m.gZ_n m.gZ_c] 25] w5 := S4.trans T3
 clear T3 S4
 refine PB.mk S5 ?_
 refine PL.takeOK 6 (fun w_ S_ => OK.cat 15 (lnT (⟨#[120]⟩ : ByteArray) m.gX_l) (lnT (⟨#[121]⟩ : ByteArray) m.gY_l) ((lnT (⟨#[120]⟩ : ByteArray) m.gX_l) ++ (lnT (⟨#[121]⟩ : ByteArray) m.gY_l)) (by kernel_rfl) (by omega) (rfl)) rfl ?_
 refine PL.take 7 3 (.string ((lnT (⟨#[120]⟩ : ByteArray) m.gX_l) ++ (lnT (⟨#[121]⟩ : ByteArray) m.gY_l))) (fun _ _ => by kernel_rfl) ?_
 refine PL.done ?_
 refine J.run 0 (rRest K7_3) [(3, .string ((lnT (⟨#[120]⟩ : ByteArray) m.gX_l) ++ (lnT (⟨#[121]⟩ : ByteArray) m.gY_l))), (1, .pointer (some ⟨b1, 0, none⟩))] w5 (by kernel_rfl) ?_
 refine J.run 4 K7_4 [(16, .pointer (some ⟨b1, 2, none⟩)), (3, .string ((lnT (⟨#[120]⟩ : ByteArray) m.gX_l) ++ (lnT (⟨#[121]⟩ : ByteArray) m.gY_l)))] w5 (by kernel_rfl) ?_
 refine J.ok (OK.ldBox S5 0 17 23 2 (.slice m.gZ_a m.gZ_n m.gZ_c) (by kernel_rfl) rfl (by kernel_rfl)) ?_
 refine J.run 5 K7_5 [(19, iv 0), (18, iv (m.gZ_n : Int)), (17, .slice m.gZ_a m.gZ_n m.gZ_c), (3, .string ((lnT (⟨#[120]⟩ : ByteArray) m.gX_l) ++ (lnT (⟨#[121]⟩ : ByteArray) m.gY_l)))] w5 (by kernel_rfl) ?_
 have L7_1 : ∀ (mm_ : Nat) (t : ByteArray) (i : Int) (w6 : World), (0 ≤ i) → (i ≤ (m.gZ_n : Int)) → ((t).size ≤ 204840 + 102420 * (i).toNat) → (t = ((m.gZ_l.map fun r => r.gS_l).take (i).toNat).foldl (fun t r => t ++ lnT WZ r) (lnT WX m.gX_l ++ lnT WY m.gY_l)) → Sep w [box b1 [.slice m.gX_a m.gX_n m.gX_c, .slice m.gY_a m.gY_n m.gY_c, .slice m.gZ_a m.gZ_n m.gZ_c] 25] w6 → ((m.gZ_n : Int) - i).toNat = mm_ → J Tryz.prog 7 29 R K7_5 [(19, iv i), (18, iv (m.gZ_n : Int)), (17, .slice m.gZ_a m.gZ_n m.gZ_c), (3, .string t)] w6 := by
  intro mm1
  induction mm1 using Nat.strongRecOn with
  | _ mm1 ih1 =>
  intro t i w6 h0 h1 hz ht S6 hm1
  refine J.run 5 K7_6 [(20, .bool (decide (i < (m.gZ_n : Int)))), (19, iv i), (18, iv (m.gZ_n : Int)), (17, .slice m.gZ_a m.gZ_n m.gZ_c), (3, .string t)] w6 (by kernel_rfl) ?_
  by_cases fk2 : i < (m.gZ_n : Int)
  rotate_left
  ·skip
   refine J.head (.bool false) (congrArg Value.bool (decide_eq_false fk2)) ?_
   refine J.run 7 K7_10 [(2, .string t)] w6 (by kernel_rfl) ?_
   refine J.ret Tryz.f7 [.string t] Tryz.func7 ⟨by kernel_rfl, trivial⟩ ?_
   refine hR _ _ ?_
   have ht2 : t = txM m := by rw [ht, List.take_of_length_le (by rw [List.length_map]; omega)]; unfold txM; rw [hv]; rfl
   exact ⟨by rw [← ht2]; rfl, S6.nil⟩
  refine J.head (.bool true) (congrArg Value.bool (decide_eq_true fk2)) ?_
  obtain ⟨hr1, hr2⟩ := hv4 i.toNat (by omega)
  have hr3 := row_len hm (i := i.toNat) (by omega)
  refine J.run 6 K7_7 [(19, iv i), (18, iv (m.gZ_n : Int)), (17, .slice m.gZ_a m.gZ_n m.gZ_c), (3, .string t)] w6 (by kernel_rfl) ?_
  obtain ⟨p1, hp1, hc1⟩ := q8.at rw0 (i).toNat (by omega)
  have hel1 := getD_Q q9 rw0 (n := (i).toNat) (by have := q8.len_eq; omega)
  obtain ⟨q10, q11, q12, _⟩ := id hel1
  have ql4 := q11.len_eq
  refine J.ok (OK.index 21 23 1 m.gZ_a p1 m.gZ_n (i).toNat i (p1.add ((i).toNat * 1)) (by kernel_rfl) (by kernel_rfl) hp1 (by omega) (by omega) rfl) ?_
  refine J.ok (OK.ldCell 22 22 (p1.add ((i).toNat * 1)) (.slice ((m.gZ_l.getD (i).toNat rw0).gS_a) ((m.gZ_l.getD (i).toNat rw0).gS_n) ((m.gZ_l.getD (i).toNat rw0).gS_c)) (by kernel_rfl) (by kernel_rfl) (S6.cell (cell_zero (hc1 0 _ rfl)))) ?_
  refine J.run 5 K7_8 [(24, .slice ((m.gZ_l.getD (i).toNat rw0).gS_a) ((m.gZ_l.getD (i).toNat rw0).gS_n) ((m.gZ_l.getD (i).toNat rw0).gS_c)), (23, .string t), (19, iv i), (18, iv (m.gZ_n : Int)), (17, .slice m.gZ_a m.gZ_n m.gZ_c)] w6 (by kernel_rfl) ?_
  have := lnT_size (wd := (⟨#[122]⟩ : ByteArray)) (l := ((m.gZ_l.getD (i).toNat rw0).gS_l)) (by decide) (by omega) (bd_in hr2)
  refine J.callF 25 19 #[.string ⟨#[122]⟩, .slice ((m.gZ_l.getD (i).toNat rw0).gS_a) ((m.gZ_l.getD (i).toNat rw0).gS_n) ((m.gZ_l.getD (i).toNat rw0).gS_c)] hb19 (by kernel_rfl) (line_any (⟨#[122]⟩ : ByteArray) ((m.gZ_l.getD (i).toNat rw0).gS_a) ((m.gZ_l.getD (i).toNat rw0).gS_n) ((m.gZ_l.getD (i).toNat rw0).gS_c) ((m.gZ_l.getD (i).toNat rw0).gS_l) _ (q11.sep S6) (by omega) (bd_in hr2) (by decide) (tabW_sep hW S6)) ?_
  rintro _ w7 ⟨rfl, T4⟩
  have S7 : Sep w [box b1 [.slice m.gX_a m.gX_n m.gX_c, .slice m.gY_a m.gY_n m.gY_c, .slice m.gZ_a m.gZ_n m.gZ_c] 25] w7 := S6.trans T4
  clear T4 S6
  refine J.ok (OK.cat 26 t (lnT (⟨#[122]⟩ : ByteArray) ((m.gZ_l.getD (i).toNat rw0).gS_l)) (t ++ (lnT (⟨#[122]⟩ : ByteArray) ((m.gZ_l.getD (i).toNat rw0).gS_l))) (by kernel_rfl) (by omega) (rfl)) ?_
  refine J.run 5 K7_9 [(27, iv (IntKind.wrap .i64 (i + 1))), (3, .string (t ++ (lnT (⟨#[122]⟩ : ByteArray) ((m.gZ_l.getD (i).toNat rw0).gS_l)))), (18, iv (m.gZ_n : Int)), (17, .slice m.gZ_a m.gZ_n m.gZ_c)] w7 (by kernel_rfl) ?_
  refine J.head (iv (i + 1)) (congrArg (Value.int .i64) (IntWalk.i64_in _ (by omega))) ?_
  refine J.run 3 K7_5 [(19, iv (i + 1)), (3, .string (t ++ (lnT (⟨#[122]⟩ : ByteArray) ((m.gZ_l.getD (i).toNat rw0).gS_l)))), (18, iv (m.gZ_n : Int)), (17, .slice m.gZ_a m.gZ_n m.gZ_c)] w7 (by kernel_rfl) ?_
  refine J.run 0 K7_5 [(19, iv (i + 1)), (18, iv (m.gZ_n : Int)), (17, .slice m.gZ_a m.gZ_n m.gZ_c), (3, .string (t ++ (lnT (⟨#[122]⟩ : ByteArray) ((m.gZ_l.getD (i).toNat rw0).gS_l))))] w7 (by kernel_rfl) ?_
  exact ih1 _ (show ((m.gZ_n : Int) - (i + 1)).toNat < mm1 from by omega) (t ++ (lnT (⟨#[122]⟩ : ByteArray) ((m.gZ_l.getD (i).toNat rw0).gS_l))) (i + 1) w7 (by omega) (by omega) (by rw [ByteArray.size_append]; omega) (tx_step ht h0 (by rw [List.length_map]; omega) (zl_take m i.toNat)) S7 rfl
 exact L7_1 _ ((lnT (⟨#[120]⟩ : ByteArray) m.gX_l) ++ (lnT (⟨#[121]⟩ : ByteArray) m.gY_l)) 0 w5 (by omega) (by omega) (by simp only [ByteArray.size_append]; omega) (rfl) S5 rfl

end
end Go.Proofs.YtadgnficogeheaaGreatDoor

