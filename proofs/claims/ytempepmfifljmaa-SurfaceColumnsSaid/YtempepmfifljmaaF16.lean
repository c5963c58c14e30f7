/- Walks of functions of this seat, printed by a program over the engine. Conditions: as each theorem says. -/
import Derived.Test.YtempepmfifljmaaF15
namespace Go.Proofs.Ytempepmfifljmaa
open Go.Eng Go.RowKit
set_option linter.unusedSimpArgs false
set_option linter.unusedVariables false
theorem hb47 : HasBody Try.prog 47 := fun _ _ => by kernel_rfl
noncomputable def K47_0 : List Item := adv 8 [] (bodyOf Try.f47)
noncomputable def K47_1 : List Item := adv 11 [] (popK K47_0)
noncomputable def K47_2 : List Item := adv 5 [] K47_1
noncomputable def K47_3 : List Item := adv 7 [true] K47_2
noncomputable def K47_4 : List Item := adv 8 [] (popK (popK K47_3))
noncomputable def K47_5 : List Item := adv 4 [] (popK (popK (popK K47_4)))
noncomputable def K47_6 : List Item := adv 7 [false] K47_2
set_option maxRecDepth 20000 in
set_option maxHeartbeats 20000000 in
theorem mapped2 (la : Option Addr) (len cap : Nat) (l : List Int) (g : FuncId) (c1 : Value) (c2 : Value) (q : Int → Int) (w : World) (hI : Ints w la len l) (hsm : len ≤ 4096) (hbg : HasBody Try.prog g) (hcall : ∀ (i : Nat) (w2 : World), i < l.length → Sep w [] w2 → Ret Try.prog g #[.int .i64 (l.getD i 0), c1, c2] w2 (fun v w3 => v = .int .i64 (q (l.getD i 0)) ∧ Sep w2 [] w3)) : Ret Try.prog 47 #[.slice la len cap, .func (.func g) #[] #[c1, c2]] w (fun v w' => ∃ a cap, v = .slice a (l.map q).length cap ∧ Sep w [rowOf encI a cap 3 1 (l.map q)] w') := by
  have S0 := Sep.refl w
  refine Ret.named fun R hR => ?_
  refine Ret.of_J (N := 26) [(0, .slice la len cap), (1, .func (.func g) #[] #[c1, c2])] Try.func47 rfl rfl (Nat.le_of_ble_eq_true (by kernel_rfl)) (by kernel_rfl) ?_
  have hll := hI.len_eq
  refine J.run 8 K47_0 [(9, .int .i64 (len : Int)), (0, .slice la len cap), (1, .func (.func g) #[] #[c1, c2])] w (by kernel_rfl) ?_
  refine J.make encI (0 : Int) S0 10 22 3 1 (len : Int) (len : Int) len (.int .i64 0) 8 (by kernel_rfl) (by omega) (by omega) (by kernel_rfl) (by kernel_rfl) (by kernel_rfl) (by rfl) (by omega) ?_
  intro b1 w1 S1
  refine J.run 11 K47_1 [(13, .int .i64 0), (12, .int .i64 (len : Int)), (11, .slice la len cap), (5, .slice (some ⟨b1, 0, none⟩) ((List.replicate len (0 : Int)).length) len), (1, .func (.func g) #[] #[c1, c2])] w1 (by kernel_rfl) ?_
  have L47_1 : ∀ (mm_ : Nat) (ls : List Int) (i : Int) (w2 : World), (0 ≤ i) → (i ≤ (len : Int)) → ((ls).length = len) → (∀ j, j < (i).toNat → (ls).getD j 0 = q (l.getD j 0)) → Sep w [rowOf encI (some ⟨b1, 0, none⟩) len 3 1 ls] w2 → ((len : Int) - i).toNat = mm_ → J Try.prog 47 26 R K47_1 [(13, .int .i64 i), (12, .int .i64 (len : Int)), (11, .slice la len cap), (5, .slice (some ⟨b1, 0, none⟩) ((List.replicate len (0 : Int)).length) len), (1, .func (.func g) #[] #[c1, c2])] w2 := by
    intro mm1
    induction mm1 using Nat.strongRecOn with
    | _ mm1 ih1 =>
    intro ls i w2 h0 h1 hls hq S2 hm1
    refine J.run 5 K47_2 [(14, .bool (decide (i < (len : Int)))), (13, .int .i64 i), (12, .int .i64 (len : Int)), (11, .slice la len cap), (5, .slice (some ⟨b1, 0, none⟩) ((List.replicate len (0 : Int)).length) len), (1, .func (.func g) #[] #[c1, c2])] w2 (by kernel_rfl) ?_
    by_cases fk1 : i < (len : Int)
    · skip
      refine J.head (.bool true) (congrArg Value.bool (decide_eq_true fk1)) ?_
      refine J.run 7 K47_3 [(15, .int .i64 i), (13, .int .i64 i), (12, .int .i64 (len : Int)), (11, .slice la len cap), (5, .slice (some ⟨b1, 0, none⟩) ((List.replicate len (0 : Int)).length) len), (1, .func (.func g) #[] #[c1, c2])] w2 (by kernel_rfl) ?_
      obtain ⟨p1, hp1, hc1⟩ := hI.at 0 (i).toNat (by omega)
      refine J.ok (OK.index 16 22 1 la p1 len (i).toNat i (p1.add (i).toNat) (by kernel_rfl) (by kernel_rfl) hp1 (by omega) (by omega) (by rw [Nat.mul_one])) ?_
      refine J.ok (OK.ldCell 17 3 (p1.add (i).toNat) (.int .i64 (l.getD (i).toNat 0)) (by kernel_rfl) (by kernel_rfl) (S2.cell hc1)) ?_
      refine J.run 8 K47_4 [(21, .int .i64 (l.getD (i).toNat 0)), (20, .func (.func g) #[] #[c1, c2]), (19, .int .i64 i), (18, .slice (some ⟨b1, 0, none⟩) ((List.replicate len (0 : Int)).length) len), (13, .int .i64 i), (12, .int .i64 (len : Int)), (11, .slice la len cap), (5, .slice (some ⟨b1, 0, none⟩) ((List.replicate len (0 : Int)).length) len), (1, .func (.func g) #[] #[c1, c2])] w2 (by kernel_rfl) ?_
      refine J.callF 22 g #[.int .i64 (l.getD (i).toNat 0), c1, c2] hbg (by kernel_rfl) (hcall (i).toNat w2 (by omega) S2.nil) ?_
      rintro _ w3 ⟨rfl, T1⟩
      have S3 : Sep w [rowOf encI (some ⟨b1, 0, none⟩) len 3 1 ls] w3 := S2.trans T1
      obtain ⟨p2, hp2⟩ := row1_addr (S3.nth 0 rfl) (show 0 < (ls).length by first | omega | (simp; omega))
      refine J.ok (OK.index 23 22 1 (some ⟨b1, 0, none⟩) p2 ((List.replicate len (0 : Int)).length) (i).toNat i (p2.add (i).toNat) (by kernel_rfl) (by kernel_rfl) hp2 (by omega) (by first | omega | (simp; omega)) (by rw [Nat.mul_one])) ?_
      refine J.stRow1 (Value.int .i64) (int_one _) S3 0 ls 3 p2 (i).toNat (q (l.getD (i).toNat 0)) rfl (by kernel_rfl) hp2 (by first | omega | (simp; omega)) (by kernel_rfl) ?_
      intro w4 S4
      replace S4 : Sep w [rowOf encI (some ⟨b1, 0, none⟩) len 3 1 (ls.set (i).toNat (q (l.getD (i).toNat 0)))] w4 := S4
      refine J.run 4 K47_5 [(24, .int .i64 (IntKind.wrap .i64 (i + 1))), (12, .int .i64 (len : Int)), (11, .slice la len cap), (5, .slice (some ⟨b1, 0, none⟩) ((List.replicate len (0 : Int)).length) len), (1, .func (.func g) #[] #[c1, c2])] w4 (by kernel_rfl) ?_
      refine J.head (.int .i64 (i + 1)) (congrArg (Value.int .i64) (IntWalk.i64_in _ (by omega))) ?_
      refine J.run 3 K47_1 [(13, .int .i64 (i + 1)), (12, .int .i64 (len : Int)), (11, .slice la len cap), (5, .slice (some ⟨b1, 0, none⟩) ((List.replicate len (0 : Int)).length) len), (1, .func (.func g) #[] #[c1, c2])] w4 (by kernel_rfl) ?_
      refine J.run 0 K47_1 [(13, .int .i64 (i + 1)), (12, .int .i64 (len : Int)), (11, .slice la len cap), (5, .slice (some ⟨b1, 0, none⟩) ((List.replicate len (0 : Int)).length) len), (1, .func (.func g) #[] #[c1, c2])] w4 (by kernel_rfl) ?_
      exact ih1 _ (show ((len : Int) - (i + 1)).toNat < mm1 from by omega) (ls.set (i).toNat (q (l.getD (i).toNat 0))) (i + 1) w4 (by omega) (by omega) (by rw [List.length_set]; exact hls) (by intro j hj; by_cases e : j = i.toNat; (subst e; exact getD_set_at (by omega)); (rw [getD_set_ne (by omega)]; exact hq j (by omega))) S4 rfl
    · skip
      refine J.head (.bool false) (congrArg Value.bool (decide_eq_false fk1)) ?_
      refine J.run 7 K47_6 [(4, .slice (some ⟨b1, 0, none⟩) ((List.replicate len (0 : Int)).length) len)] w2 (by kernel_rfl) ?_
      refine J.ret Try.f47 [.slice (some ⟨b1, 0, none⟩) ((List.replicate len (0 : Int)).length) len] Try.func47 ⟨by kernel_rfl, trivial⟩ ?_
      refine hR _ _ ?_
      have e_ : ls = l.map q := list_ext_getD (by rw [List.length_map]; omega) fun k hk => by rw [hq k (by omega), map_getD (by omega)]
      subst e_
      exact ⟨_, _, by rw [tup_one, List.length_replicate, List.length_map, hll], S2.pick 0 rfl⟩
  exact L47_1 _ (List.replicate len (0 : Int)) 0 w1 (by omega) (by omega) (by simp) (by intro j hj; simp at hj) S1 rfl

theorem hb48 : HasBody Try.prog 48 := fun _ _ => by kernel_rfl
noncomputable def K48_0 : List Item := adv 6 [] (bodyOf Try.f48)
noncomputable def K48_1 : List Item := adv 1 [] (popK (popK K48_0))
noncomputable def K48_2 : List Item := adv 2 [] (popK K48_1)
set_option maxRecDepth 20000 in
set_option maxHeartbeats 20000000 in
theorem column1_any (m : Mp) (x y : Int) (bx1 bx2 : Nat) (w : World) (hm : mpQ w m) (hv : validM m = true) (hb1 : (box bx1 [.slice m.gX_a m.gX_n m.gX_c, .slice m.gY_a m.gY_n m.gY_c, .slice m.gZ_a m.gZ_n m.gZ_c] 25).holds w) (hb2 : (box bx2 [.int .i64 x] 3).holds w) : Ret Try.prog 48 #[.int .i64 y, .pointer (some ⟨bx1, 0, none⟩), .pointer (some ⟨bx2, 0, none⟩)] w (fun v w' => v = .int .i64 (valueF m x y) ∧ Sep w [] w') := by
  have S0 := Sep.refl w
  refine Ret.named fun R hR => ?_
  refine Ret.of_J (N := 9) [(0, .int .i64 y), (1, .pointer (some ⟨bx1, 0, none⟩)), (2, .pointer (some ⟨bx2, 0, none⟩))] Try.func48 rfl rfl (Nat.le_of_ble_eq_true (by kernel_rfl)) (by kernel_rfl) ?_
  obtain ⟨q1, q2, q3, q4, q5, q6, q7, q8, q9, _⟩ := id hm
  have ql1 := q2.len_eq
  have ql2 := q5.len_eq
  have ql3 := q8.len_eq
  refine J.run 6 K48_0 [(0, .int .i64 y), (1, .pointer (some ⟨bx1, 0, none⟩)), (2, .pointer (some ⟨bx2, 0, none⟩))] w (by kernel_rfl) ?_
  refine J.ok (OK.ldRo S0 hb1 5 25 0 (.agg #[.slice m.gX_a m.gX_n m.gX_c, .slice m.gY_a m.gY_n m.gY_c, .slice m.gZ_a m.gZ_n m.gZ_c]) (by kernel_rfl) (by kernel_rfl)) ?_
  refine J.ok (OK.ldRo S0 hb2 6 3 0 (.int .i64 x) (by kernel_rfl) (by kernel_rfl)) ?_
  refine J.run 1 K48_1 [(7, .int .i64 y), (6, .int .i64 x), (5, .agg #[.slice m.gX_a m.gX_n m.gX_c, .slice m.gY_a m.gY_n m.gY_c, .slice m.gZ_a m.gZ_n m.gZ_c])] w (by kernel_rfl) ?_
  refine J.callF 8 35 #[.agg #[.slice m.gX_a m.gX_n m.gX_c, .slice m.gY_a m.gY_n m.gY_c, .slice m.gZ_a m.gZ_n m.gZ_c], .int .i64 x, .int .i64 y] hb35 (by kernel_rfl) (at_any m x y _ (mpQ_sep hm S0) hv) ?_
  rintro _ w1 ⟨rfl, T1⟩
  have S1 : Sep w [] w1 := S0.trans T1
  clear T1
  refine J.run 2 K48_2 [(4, .int .i64 (valueF m x y))] w1 (by kernel_rfl) ?_
  refine J.ret Try.f48 [.int .i64 (valueF m x y)] Try.func48 ⟨by kernel_rfl, trivial⟩ ?_
  refine hR _ _ ?_
  exact ⟨rfl, S1.nil⟩

theorem hb49 : HasBody Try.prog 49 := fun _ _ => by kernel_rfl
noncomputable def K49_0 : List Item := adv 6 [] (bodyOf Try.f49)
noncomputable def K49_1 : List Item := adv 1 [] (popK K49_0)
noncomputable def K49_2 : List Item := adv 2 [] (popK (popK K49_1))
set_option maxRecDepth 20000 in
set_option maxHeartbeats 20000000 in
theorem row1_any (m : Mp) (x y : Int) (bx1 bx2 : Nat) (w : World) (hm : mpQ w m) (hv : validM m = true) (hb1 : (box bx1 [.slice m.gX_a m.gX_n m.gX_c, .slice m.gY_a m.gY_n m.gY_c, .slice m.gZ_a m.gZ_n m.gZ_c] 25).holds w) (hb2 : (box bx2 [.int .i64 y] 3).holds w) : Ret Try.prog 49 #[.int .i64 x, .pointer (some ⟨bx1, 0, none⟩), .pointer (some ⟨bx2, 0, none⟩)] w (fun v w' => v = .int .i64 (valueF m x y) ∧ Sep w [] w') := by
  have S0 := Sep.refl w
  refine Ret.named fun R hR => ?_
  refine Ret.of_J (N := 9) [(0, .int .i64 x), (1, .pointer (some ⟨bx1, 0, none⟩)), (2, .pointer (some ⟨bx2, 0, none⟩))] Try.func49 rfl rfl (Nat.le_of_ble_eq_true (by kernel_rfl)) (by kernel_rfl) ?_
  obtain ⟨q1, q2, q3, q4, q5, q6, q7, q8, q9, _⟩ := id hm
  have ql1 := q2.len_eq
  have ql2 := q5.len_eq
  have ql3 := q8.len_eq
  refine J.run 6 K49_0 [(0, .int .i64 x), (1, .pointer (some ⟨bx1, 0, none⟩)), (2, .pointer (some ⟨bx2, 0, none⟩))] w (by kernel_rfl) ?_
  refine J.ok (OK.ldRo S0 hb1 5 25 0 (.agg #[.slice m.gX_a m.gX_n m.gX_c, .slice m.gY_a m.gY_n m.gY_c, .slice m.gZ_a m.gZ_n m.gZ_c]) (by kernel_rfl) (by kernel_rfl)) ?_
  refine J.run 1 K49_1 [(6, .int .i64 x), (5, .agg #[.slice m.gX_a m.gX_n m.gX_c, .slice m.gY_a m.gY_n m.gY_c, .slice m.gZ_a m.gZ_n m.gZ_c]), (2, .pointer (some ⟨bx2, 0, none⟩))] w (by kernel_rfl) ?_
  refine J.ok (OK.ldRo S0 hb2 7 3 0 (.int .i64 y) (by kernel_rfl) (by kernel_rfl)) ?_
  refine J.callF 8 35 #[.agg #[.slice m.gX_a m.gX_n m.gX_c, .slice m.gY_a m.gY_n m.gY_c, .slice m.gZ_a m.gZ_n m.gZ_c], .int .i64 x, .int .i64 y] hb35 (by kernel_rfl) (at_any m x y _ (mpQ_sep hm S0) hv) ?_
  rintro _ w1 ⟨rfl, T1⟩
  have S1 : Sep w [] w1 := S0.trans T1
  clear T1
  refine J.run 2 K49_2 [(4, .int .i64 (valueF m x y))] w1 (by kernel_rfl) ?_
  refine J.ret Try.f49 [.int .i64 (valueF m x y)] Try.func49 ⟨by kernel_rfl, trivial⟩ ?_
  refine hR _ _ ?_
  exact ⟨rfl, S1.nil⟩

theorem hb21 : HasBody Try.prog 21 := fun _ _ => by kernel_rfl
noncomputable def K21_0 : List Item := adv 2 [] (bodyOf Try.f21)
noncomputable def K21_1 : List Item := adv 5 [] (popK (popK (popK K21_0)))
noncomputable def K21_2 : List Item := adv 2 [] (popK (popK K21_1))
noncomputable def K21_3 : List Item := adv 3 [false] K21_2
noncomputable def K21_4 : List Item := adv 4 [true] K21_2
noncomputable def K21_5 : List Item := adv 2 [] (popK K21_4)
set_option maxRecDepth 20000 in
set_option maxHeartbeats 20000000 in
theorem Column_any (m : Mp) (x : Int) (w : World) (hm : mpQ w m) : Ret Try.prog 21 #[.agg #[.slice m.gX_a m.gX_n m.gX_c, .slice m.gY_a m.gY_n m.gY_c, .slice m.gZ_a m.gZ_n m.gZ_c], .int .i64 x] w (fun v w' => ∃ a c b d, v = .tuple #[.agg #[.slice a (colN m).length c, .slice b (colV m x).length d], .int .i64 (errM m)] ∧ Sep w [rowOf encI b d 3 1 (colV m x), rowOf encI a c 3 1 (colN m)] w') := by
  have S0 := Sep.refl w
  refine Ret.named fun R hR => ?_
  refine Ret.of_J (N := 18) [(0, .agg #[.slice m.gX_a m.gX_n m.gX_c, .slice m.gY_a m.gY_n m.gY_c, .slice m.gZ_a m.gZ_n m.gZ_c]), (1, .int .i64 x)] Try.func21 rfl rfl (Nat.le_of_ble_eq_true (by kernel_rfl)) (by kernel_rfl) ?_
  obtain ⟨q1, q2, q3, q4, q5, q6, q7, q8, q9, _⟩ := id hm
  have ql1 := q2.len_eq
  have ql2 := q5.len_eq
  have ql3 := q8.len_eq
  refine J.run 2 K21_0 [(0, .agg #[.slice m.gX_a m.gX_n m.gX_c, .slice m.gY_a m.gY_n m.gY_c, .slice m.gZ_a m.gZ_n m.gZ_c]), (1, .int .i64 x)] w (by kernel_rfl) ?_
  refine J.new S0 2 [.slice m.gX_a m.gX_n m.gX_c, .slice m.gY_a m.gY_n m.gY_c, .slice m.gZ_a m.gZ_n m.gZ_c] 25 (by kernel_rfl) ?_
  intro b1 w1 S1
  refine J.new S1 3 [.int .i64 x] 3 (by kernel_rfl) ?_
  intro b2 w2 S2
  refine J.new S2 4 [.slice none 0 0, .slice none 0 0] 40 (by kernel_rfl) ?_
  intro b3 w3 S3
  refine J.run 5 K21_1 [(4, .pointer (some ⟨b3, 0, none⟩)), (3, .pointer (some ⟨b2, 0, none⟩)), (2, .pointer (some ⟨b1, 0, none⟩))] w3 (by kernel_rfl) ?_
  refine J.ok (OK.ldBox S3 2 6 25 0 (.agg #[.slice m.gX_a m.gX_n m.gX_c, .slice m.gY_a m.gY_n m.gY_c, .slice m.gZ_a m.gZ_n m.gZ_c]) (by kernel_rfl) rfl (by kernel_rfl)) ?_
  refine J.callF 7 15 #[.agg #[.slice m.gX_a m.gX_n m.gX_c, .slice m.gY_a m.gY_n m.gY_c, .slice m.gZ_a m.gZ_n m.gZ_c]] hb15 (by kernel_rfl) (valid_any m _ (mpQ_sep hm S3)) ?_
  rintro _ w4 ⟨rfl, T1⟩
  have S4 : Sep w [box b3 [.slice none 0 0, .slice none 0 0] 40, box b2 [.int .i64 x] 3, box b1 [.slice m.gX_a m.gX_n m.gX_c, .slice m.gY_a m.gY_n m.gY_c, .slice m.gZ_a m.gZ_n m.gZ_c] 25] w4 := S3.trans T1
  clear T1 S3
  refine J.run 2 K21_2 [(8, .bool (!(validM m))), (4, .pointer (some ⟨b3, 0, none⟩)), (3, .pointer (some ⟨b2, 0, none⟩)), (2, .pointer (some ⟨b1, 0, none⟩))] w4 (by kernel_rfl) ?_
  rcases Bool.eq_false_or_eq_true (validM m) with fk1 | fk1
  · skip
    refine J.head (.bool false) (congrArg Value.bool (by rw [fk1]; rfl)) ?_
    have hv := fk1
    obtain ⟨hv1, hv2, hv3, hv4⟩ := valid_facts hv
    obtain ⟨hx1, hx2, hx3⟩ := axis_facts hv1
    obtain ⟨hy1, hy2, hy3⟩ := axis_facts hv2
    have hX : m.gX_l.length = m.gX_n := by omega
    have hY : m.gY_l.length = m.gY_n := by omega
    have vm := vm_of hv (by omega) fun i hi => row_len hm hi
    have hX0 := hx2 0 (by omega)
    have hX1 := hx2 ((m.gX_n : Int) - 1).toNat (by omega)
    have hXm := axis_mono hv1 (show 0 < ((m.gX_n : Int) - 1).toNat by omega) (by omega)
    refine J.run 3 K21_3 [(4, .pointer (some ⟨b3, 0, none⟩)), (3, .pointer (some ⟨b2, 0, none⟩)), (2, .pointer (some ⟨b1, 0, none⟩))] w4 (by kernel_rfl) ?_
    refine J.drawPlan (fun w_ => Sep w [box b2 [.int .i64 x] 3, box b1 [.slice m.gX_a m.gX_n m.gX_c, .slice m.gY_a m.gY_n m.gY_c, .slice m.gZ_a m.gZ_n m.gZ_c] 25] w_) [(0, true), (1, true), (3, true), (4, true), (5, true), (2, false), (6, false), (7, true), (8, false), (9, true)] S4 Try.mixed (by kernel_rfl) (planOK_of (T := [(0, some 10, 4), (1, some 11, 1024), (2, some 12, 2048), (0, some 13, 4), (8, some 14, 8192), (0, some 15, 12), (52, some 16, 49152), (68, some 17, 69632), (255, none, 131088), (511, some 5, 0)]) (by kernel_rfl) (by kernel_rfl)) ?_
    intro w5 S5
    refine PB.mk (S5.sub (.cons _ (.cons_cons _ (.cons_cons _ (.slnil))))) ?_
    refine PL.take 0 10 (.pointer (some ⟨b1, 1, none⟩)) (fun _ _ => by kernel_rfl) ?_
    refine PL.takeOK 1 (fun w_ S_ => OK.ldBox S_ 1 11 22 1 (.slice m.gY_a m.gY_n m.gY_c) (by kernel_rfl) rfl (by kernel_rfl)) rfl ?_
    refine PL.take 3 13 (.pointer (some ⟨b1, 1, none⟩)) (fun _ _ => by kernel_rfl) ?_
    refine PL.takeOK 4 (fun w_ S_ => OK.ldBox S_ 1 14 22 1 (.slice m.gY_a m.gY_n m.gY_c) (by kernel_rfl) rfl (by kernel_rfl)) rfl ?_
    refine PL.take 5 15 (.func (.func 48) #[] #[.pointer (some ⟨b1, 0, none⟩), .pointer (some ⟨b2, 0, none⟩)]) (fun _ _ => by kernel_rfl) ?_
    refine PL.callF 12 46 #[.slice m.gY_a m.gY_n m.gY_c] hb46 (by kernel_rfl) (clone_any m.gY_a m.gY_n m.gY_c m.gY_l _ (q5.sep S5) (by omega) (by omega)) ?_
    rintro _ w6 ⟨ra1, rc1, rfl, T2⟩
    have S6 : Sep w [rowOf encI ra1 rc1 3 1 m.gY_l, box b3 [.slice none 0 0, .slice none 0 0] 40, box b2 [.int .i64 x] 3, box b1 [.slice m.gX_a m.gX_n m.gX_c, .slice m.gY_a m.gY_n m.gY_c, .slice m.gZ_a m.gZ_n m.gZ_c] 25] w6 := S5.trans T2
    clear T2 S5
    refine PB.mk (S6.sub (.cons _ (.cons _ (.cons_cons _ (.cons_cons _ (.slnil)))))) ?_
    refine PL.callF 16 47 #[.slice m.gY_a m.gY_n m.gY_c, .func (.func 48) #[] #[.pointer (some ⟨b1, 0, none⟩), .pointer (some ⟨b2, 0, none⟩)]] hb47 (by kernel_rfl) (mapped2 m.gY_a m.gY_n m.gY_c m.gY_l 48 (.pointer (some ⟨b1, 0, none⟩)) (.pointer (some ⟨b2, 0, none⟩)) (fun y => valueF m x y) _ (q5.sep S6) (by omega) hb48 (fun i_ w_ hi_ S_ => column1_any m x _ b1 b2 w_ (mpQ_sep (mpQ_sep hm S6) S_) hv (box_keep (S6.nth 3 rfl) S_) (box_keep (S6.nth 2 rfl) S_))) ?_
    rintro _ w7 ⟨ra2, rc2, rfl, T3⟩
    have S7 : Sep w [rowOf encI ra2 rc2 3 1 (List.map (fun y => valueF m x y) m.gY_l), rowOf encI ra1 rc1 3 1 m.gY_l, box b3 [.slice none 0 0, .slice none 0 0] 40, box b2 [.int .i64 x] 3, box b1 [.slice m.gX_a m.gX_n m.gX_c, .slice m.gY_a m.gY_n m.gY_c, .slice m.gZ_a m.gZ_n m.gZ_c] 25] w7 := S6.trans T3
    refine PB.mk (S7.sub (.cons _ (.cons _ (.cons _ (.cons_cons _ (.cons_cons _ (.slnil))))))) ?_
    refine PL.take 7 17 (.agg #[.slice ra1 m.gY_l.length rc1, .slice ra2 ((List.map (fun y => valueF m x y) m.gY_l).length) rc2]) (fun _ _ => by kernel_rfl) ?_
    refine PL.stBox S7 2 40 0 (.agg #[.slice ra1 m.gY_l.length rc1, .slice ra2 ((List.map (fun y => valueF m x y) m.gY_l).length) rc2]) [.slice ra1 m.gY_l.length rc1, .slice ra2 ((List.map (fun y => valueF m x y) m.gY_l).length) rc2] [rowOf encI ra2 rc2 3 1 (List.map (fun y => valueF m x y) m.gY_l), rowOf encI ra1 rc1 3 1 m.gY_l, box b3 [.slice ra1 m.gY_l.length rc1, .slice ra2 ((List.map (fun y => valueF m x y) m.gY_l).length) rc2] 40, box b2 [.int .i64 x] 3, box b1 [.slice m.gX_a m.gX_n m.gX_c, .slice m.gY_a m.gY_n m.gY_c, .slice m.gZ_a m.gZ_n m.gZ_c] 25] (by kernel_rfl) rfl (by kernel_rfl) (by kernel_rfl) rfl ?_
    intro w8 S8
    refine PB.mk (S8.sub (.cons _ (.cons _ (.cons _ (.cons_cons _ (.cons_cons _ (.slnil))))))) ?_
    refine PL.take 9 5 (.int .i64 0) (fun _ _ => by kernel_rfl) ?_
    refine PL.done ?_
    refine J.run 0 (rRest K21_3) [(5, .int .i64 0), (4, .pointer (some ⟨b3, 0, none⟩))] w8 (by kernel_rfl) ?_
    refine J.ret Try.f21 [.agg #[.slice ra1 m.gY_l.length rc1, .slice ra2 ((List.map (fun y => valueF m x y) m.gY_l).length) rc2], .int .i64 0] Try.func21 ⟨⟨⟨b3, 0, none⟩, by kernel_rfl, ldV_run (S8.nth 2 rfl) (by kernel_rfl)⟩, by kernel_rfl, trivial⟩ ?_
    refine hR _ _ ?_
    refine ⟨ra1, rc1, ra2, rc2, ?_, ?_⟩
    · rw [colN_yes fk1, colV_yes fk1 x, errM_yes fk1]; rfl
    · rw [colN_yes fk1, colV_yes fk1 x]; exact S8.two 1 1 rfl rfl (by decide)
  · skip
    refine J.head (.bool true) (congrArg Value.bool (by rw [fk1]; rfl)) ?_
    refine J.run 4 K21_4 [(9, .agg #[.slice none 0 0, .slice none 0 0]), (4, .pointer (some ⟨b3, 0, none⟩))] w4 (by kernel_rfl) ?_
    refine J.stBox S4 0 40 0 (.agg #[.slice none 0 0, .slice none 0 0]) [.slice none 0 0, .slice none 0 0] [box b3 [.slice none 0 0, .slice none 0 0] 40, box b2 [.int .i64 x] 3, box b1 [.slice m.gX_a m.gX_n m.gX_c, .slice m.gY_a m.gY_n m.gY_c, .slice m.gZ_a m.gZ_n m.gZ_c] 25] (by kernel_rfl) rfl (by kernel_rfl) (by kernel_rfl) rfl ?_
    intro w9 S9
    refine J.run 2 K21_5 [(5, .int .i64 1), (4, .pointer (some ⟨b3, 0, none⟩))] w9 (by kernel_rfl) ?_
    refine J.ret Try.f21 [.agg #[.slice none 0 0, .slice none 0 0], .int .i64 1] Try.func21 ⟨⟨⟨b3, 0, none⟩, by kernel_rfl, ldV_run (S9.nth 0 rfl) (by kernel_rfl)⟩, by kernel_rfl, trivial⟩ ?_
    refine hR _ _ ?_
    obtain ⟨e1, e2, e3⟩ := err_no fk1
    obtain ⟨e4, e5⟩ := errv_no fk1 x
    refine ⟨none, 0, none, 0, ?_, ?_⟩
    · rw [e1, e4, e3]; rfl
    · rw [e1, e4]; exact (S9.nil.nilRow 3 1).nilRow 3 1

theorem hb23 : HasBody Try.prog 23 := fun _ _ => by kernel_rfl
noncomputable def K23_0 : List Item := adv 2 [] (bodyOf Try.f23)
noncomputable def K23_1 : List Item := adv 5 [] (popK (popK K23_0))
noncomputable def K23_2 : List Item := adv 2 [] (popK (popK K23_1))
noncomputable def K23_3 : List Item := adv 3 [false] K23_2
noncomputable def K23_4 : List Item := adv 4 [true] K23_2
noncomputable def K23_5 : List Item := adv 2 [] (popK K23_4)
set_option maxRecDepth 20000 in
set_option maxHeartbeats 20000000 in
theorem rColumn_any (m : Mp) (x : Int) (w : World) (hm : mpQ w m) : Ret Try.prog 23 #[.agg #[.slice m.gX_a m.gX_n m.gX_c, .slice m.gY_a m.gY_n m.gY_c, .slice m.gZ_a m.gZ_n m.gZ_c], .int .i64 x] w (fun v w' => ∃ a c b d, v = .tuple #[.agg #[.slice a (colN m).length c, .slice b (colV m x).length d], .int .i64 (errM m)] ∧ Sep w [rowOf encI b d 3 1 (colV m x), rowOf encI a c 3 1 (colN m)] w') := by
  have S0 := Sep.refl w
  refine Ret.named fun R hR => ?_
  refine Ret.of_J (N := 17) [(0, .agg #[.slice m.gX_a m.gX_n m.gX_c, .slice m.gY_a m.gY_n m.gY_c, .slice m.gZ_a m.gZ_n m.gZ_c]), (1, .int .i64 x)] Try.func23 rfl rfl (Nat.le_of_ble_eq_true (by kernel_rfl)) (by kernel_rfl) ?_
  obtain ⟨q1, q2, q3, q4, q5, q6, q7, q8, q9, _⟩ := id hm
  have ql1 := q2.len_eq
  have ql2 := q5.len_eq
  have ql3 := q8.len_eq
  refine J.run 2 K23_0 [(0, .agg #[.slice m.gX_a m.gX_n m.gX_c, .slice m.gY_a m.gY_n m.gY_c, .slice m.gZ_a m.gZ_n m.gZ_c]), (1, .int .i64 x)] w (by kernel_rfl) ?_
  refine J.new S0 2 [.slice m.gX_a m.gX_n m.gX_c, .slice m.gY_a m.gY_n m.gY_c, .slice m.gZ_a m.gZ_n m.gZ_c] 25 (by kernel_rfl) ?_
  intro b1 w1 S1
  refine J.new S1 4 [.slice none 0 0, .slice none 0 0] 40 (by kernel_rfl) ?_
  intro b2 w2 S2
  refine J.run 5 K23_1 [(4, .pointer (some ⟨b2, 0, none⟩)), (2, .pointer (some ⟨b1, 0, none⟩)), (1, .int .i64 x)] w2 (by kernel_rfl) ?_
  refine J.ok (OK.ldBox S2 1 6 25 0 (.agg #[.slice m.gX_a m.gX_n m.gX_c, .slice m.gY_a m.gY_n m.gY_c, .slice m.gZ_a m.gZ_n m.gZ_c]) (by kernel_rfl) rfl (by kernel_rfl)) ?_
  refine J.callF 7 16 #[.agg #[.slice m.gX_a m.gX_n m.gX_c, .slice m.gY_a m.gY_n m.gY_c, .slice m.gZ_a m.gZ_n m.gZ_c]] hb16 (by kernel_rfl) (rvalid_any m _ (mpQ_sep hm S2)) ?_
  rintro _ w3 ⟨rfl, T1⟩
  have S3 : Sep w [box b2 [.slice none 0 0, .slice none 0 0] 40, box b1 [.slice m.gX_a m.gX_n m.gX_c, .slice m.gY_a m.gY_n m.gY_c, .slice m.gZ_a m.gZ_n m.gZ_c] 25] w3 := S2.trans T1
  clear T1 S2
  refine J.run 2 K23_2 [(8, .bool (!(validM m))), (4, .pointer (some ⟨b2, 0, none⟩)), (2, .pointer (some ⟨b1, 0, none⟩)), (1, .int .i64 x)] w3 (by kernel_rfl) ?_
  rcases Bool.eq_false_or_eq_true (validM m) with fk1 | fk1
  · skip
    refine J.head (.bool false) (congrArg Value.bool (by rw [fk1]; rfl)) ?_
    have hv := fk1
    obtain ⟨hv1, hv2, hv3, hv4⟩ := valid_facts hv
    obtain ⟨hx1, hx2, hx3⟩ := axis_facts hv1
    obtain ⟨hy1, hy2, hy3⟩ := axis_facts hv2
    have hX : m.gX_l.length = m.gX_n := by omega
    have hY : m.gY_l.length = m.gY_n := by omega
    have vm := vm_of hv (by omega) fun i hi => row_len hm hi
    have hX0 := hx2 0 (by omega)
    have hX1 := hx2 ((m.gX_n : Int) - 1).toNat (by omega)
    have hXm := axis_mono hv1 (show 0 < ((m.gX_n : Int) - 1).toNat by omega) (by omega)
    refine J.run 3 K23_3 [(4, .pointer (some ⟨b2, 0, none⟩)), (2, .pointer (some ⟨b1, 0, none⟩)), (1, .int .i64 x)] w3 (by kernel_rfl) ?_
    refine J.drawPlan (fun w_ => Sep w [box b1 [.slice m.gX_a m.gX_n m.gX_c, .slice m.gY_a m.gY_n m.gY_c, .slice m.gZ_a m.gZ_n m.gZ_c] 25] w_) [(0, true), (1, true), (3, true), (4, true), (2, false), (5, false), (6, true), (7, false), (8, true)] S3 Try.mixed (by kernel_rfl) (planOK_of (T := [(0, some 10, 4), (1, some 11, 1024), (2, some 12, 2048), (0, some 13, 4), (0, some 14, 2), (28, some 15, 24576), (36, some 16, 36864), (127, none, 65552), (255, some 5, 0)]) (by kernel_rfl) (by kernel_rfl)) ?_
    intro w4 S4
    refine PB.mk (S4.sub (.cons _ (.cons_cons _ (.slnil)))) ?_
    refine PL.take 0 10 (.pointer (some ⟨b1, 1, none⟩)) (fun _ _ => by kernel_rfl) ?_
    refine PL.takeOK 1 (fun w_ S_ => OK.ldBox S_ 0 11 22 1 (.slice m.gY_a m.gY_n m.gY_c) (by kernel_rfl) rfl (by kernel_rfl)) rfl ?_
    refine PL.takeOK 3 (fun w_ S_ => OK.ldBox S_ 0 13 25 0 (.agg #[.slice m.gX_a m.gX_n m.gX_c, .slice m.gY_a m.gY_n m.gY_c, .slice m.gZ_a m.gZ_n m.gZ_c]) (by kernel_rfl) rfl (by kernel_rfl)) rfl ?_
    refine PL.take 4 14 (.int .i64 x) (fun _ _ => by kernel_rfl) ?_
    refine PL.callF 12 50 #[.slice m.gY_a m.gY_n m.gY_c] hb50 (by kernel_rfl) (copied_any m.gY_a m.gY_n m.gY_c m.gY_l _ (q5.sep S4) (by omega) (by omega)) ?_
    rintro _ w5 ⟨ra1, rc1, rfl, T2⟩
    have S5 : Sep w [rowOf encI ra1 rc1 3 1 m.gY_l, box b2 [.slice none 0 0, .slice none 0 0] 40, box b1 [.slice m.gX_a m.gX_n m.gX_c, .slice m.gY_a m.gY_n m.gY_c, .slice m.gZ_a m.gZ_n m.gZ_c] 25] w5 := S4.trans T2
    clear T2 S4
    refine PB.mk (S5.sub (.cons _ (.cons _ (.cons_cons _ (.slnil))))) ?_
    refine PL.callF 15 51 #[.agg #[.slice m.gX_a m.gX_n m.gX_c, .slice m.gY_a m.gY_n m.gY_c, .slice m.gZ_a m.gZ_n m.gZ_c], .int .i64 x] hb51 (by kernel_rfl) (column_any m x _ (mpQ_sep hm S5) hv) ?_
    rintro _ w6 ⟨ra2, rc2, rfl, T3⟩
    have S6 : Sep w [rowOf encI ra2 rc2 3 1 (colF m x), rowOf encI ra1 rc1 3 1 m.gY_l, box b2 [.slice none 0 0, .slice none 0 0] 40, box b1 [.slice m.gX_a m.gX_n m.gX_c, .slice m.gY_a m.gY_n m.gY_c, .slice m.gZ_a m.gZ_n m.gZ_c] 25] w6 := S5.trans T3
    clear T3 S5
    refine PB.mk (S6.sub (.cons _ (.cons _ (.cons _ (.cons_cons _ (.slnil)))))) ?_
    refine PL.take 6 16 (.agg #[.slice ra1 m.gY_l.length rc1, .slice ra2 ((colF m x).length) rc2]) (fun _ _ => by kernel_rfl) ?_
    refine PL.stBox S6 2 40 0 (.agg #[.slice ra1 m.gY_l.length rc1, .slice ra2 ((colF m x).length) rc2]) [.slice ra1 m.gY_l.length rc1, .slice ra2 ((colF m x).length) rc2] [rowOf encI ra2 rc2 3 1 (colF m x), rowOf encI ra1 rc1 3 1 m.gY_l, box b2 [.slice ra1 m.gY_l.length rc1, .slice ra2 ((colF m x).length) rc2] 40, box b1 [.slice m.gX_a m.gX_n m.gX_c, .slice m.gY_a m.gY_n m.gY_c, .slice m.gZ_a m.gZ_n m.gZ_c] 25] (by kernel_rfl) rfl (by kernel_rfl) (by kernel_rfl) rfl ?_
    intro w7 S7
    refine PB.mk (S7.sub (.cons _ (.cons _ (.cons _ (.cons_cons _ (.slnil)))))) ?_
    refine PL.take 8 5 (.int .i64 0) (fun _ _ => by kernel_rfl) ?_
    refine PL.done ?_
    refine J.run 0 (rRest K23_3) [(5, .int .i64 0), (4, .pointer (some ⟨b2, 0, none⟩))] w7 (by kernel_rfl) ?_
    refine J.ret Try.f23 [.agg #[.slice ra1 m.gY_l.length rc1, .slice ra2 ((colF m x).length) rc2], .int .i64 0] Try.func23 ⟨⟨⟨b2, 0, none⟩, by kernel_rfl, ldV_run (S7.nth 2 rfl) (by kernel_rfl)⟩, by kernel_rfl, trivial⟩ ?_
    refine hR _ _ ?_
    refine ⟨ra1, rc1, ra2, rc2, ?_, ?_⟩
    · rw [colN_yes fk1, colV_yes fk1 x, ← colF_map hY hv2 x, errM_yes fk1]; rfl
    · rw [colN_yes fk1, colV_yes fk1 x, ← colF_map hY hv2 x]; exact S7.two 1 1 rfl rfl (by decide)
  · skip
    refine J.head (.bool true) (congrArg Value.bool (by rw [fk1]; rfl)) ?_
    refine J.run 4 K23_4 [(9, .agg #[.slice none 0 0, .slice none 0 0]), (4, .pointer (some ⟨b2, 0, none⟩))] w3 (by kernel_rfl) ?_
    refine J.stBox S3 0 40 0 (.agg #[.slice none 0 0, .slice none 0 0]) [.slice none 0 0, .slice none 0 0] [box b2 [.slice none 0 0, .slice none 0 0] 40, box b1 [.slice m.gX_a m.gX_n m.gX_c, .slice m.gY_a m.gY_n m.gY_c, .slice m.gZ_a m.gZ_n m.gZ_c] 25] (by kernel_rfl) rfl (by kernel_rfl) (by kernel_rfl) rfl ?_
    intro w8 S8
    refine J.run 2 K23_5 [(5, .int .i64 1), (4, .pointer (some ⟨b2, 0, none⟩))] w8 (by kernel_rfl) ?_
    refine J.ret Try.f23 [.agg #[.slice none 0 0, .slice none 0 0], .int .i64 1] Try.func23 ⟨⟨⟨b2, 0, none⟩, by kernel_rfl, ldV_run (S8.nth 0 rfl) (by kernel_rfl)⟩, by kernel_rfl, trivial⟩ ?_
    refine hR _ _ ?_
    obtain ⟨e1, e2, e3⟩ := err_no fk1
    obtain ⟨e4, e5⟩ := errv_no fk1 x
    refine ⟨none, 0, none, 0, ?_, ?_⟩
    · rw [e1, e4, e3]; rfl
    · rw [e1, e4]; exact (S8.nil.nilRow 3 1).nilRow 3 1

theorem hb22 : HasBody Try.prog 22 := fun _ _ => by kernel_rfl
noncomputable def K22_0 : List Item := adv 2 [] (bodyOf Try.f22)
noncomputable def K22_1 : List Item := adv 5 [] (popK (popK (popK K22_0)))
noncomputable def K22_2 : List Item := adv 2 [] (popK (popK K22_1))
noncomputable def K22_3 : List Item := adv 3 [false] K22_2
noncomputable def K22_4 : List Item := adv 4 [true] K22_2
noncomputable def K22_5 : List Item := adv 2 [] (popK K22_4)
set_option maxRecDepth 20000 in
set_option maxHeartbeats 20000000 in
theorem Row_any (m : Mp) (y : Int) (w : World) (hm : mpQ w m) : Ret Try.prog 22 #[.agg #[.slice m.gX_a m.gX_n m.gX_c, .slice m.gY_a m.gY_n m.gY_c, .slice m.gZ_a m.gZ_n m.gZ_c], .int .i64 y] w (fun v w' => ∃ a c b d, v = .tuple #[.agg #[.slice a (rowN m).length c, .slice b (rowV m y).length d], .int .i64 (errM m)] ∧ Sep w [rowOf encI b d 3 1 (rowV m y), rowOf encI a c 3 1 (rowN m)] w') := by
  have S0 := Sep.refl w
  refine Ret.named fun R hR => ?_
  refine Ret.of_J (N := 18) [(0, .agg #[.slice m.gX_a m.gX_n m.gX_c, .slice m.gY_a m.gY_n m.gY_c, .slice m.gZ_a m.gZ_n m.gZ_c]), (1, .int .i64 y)] Try.func22 rfl rfl (Nat.le_of_ble_eq_true (by kernel_rfl)) (by kernel_rfl) ?_
  obtain ⟨q1, q2, q3, q4, q5, q6, q7, q8, q9, _⟩ := id hm
  have ql1 := q2.len_eq
  have ql2 := q5.len_eq
  have ql3 := q8.len_eq
  refine J.run 2 K22_0 [(0, .agg #[.slice m.gX_a m.gX_n m.gX_c, .slice m.gY_a m.gY_n m.gY_c, .slice m.gZ_a m.gZ_n m.gZ_c]), (1, .int .i64 y)] w (by kernel_rfl) ?_
  refine J.new S0 2 [.slice m.gX_a m.gX_n m.gX_c, .slice m.gY_a m.gY_n m.gY_c, .slice m.gZ_a m.gZ_n m.gZ_c] 25 (by kernel_rfl) ?_
  intro b1 w1 S1
  refine J.new S1 3 [.int .i64 y] 3 (by kernel_rfl) ?_
  intro b2 w2 S2
  refine J.new S2 4 [.slice none 0 0, .slice none 0 0] 40 (by kernel_rfl) ?_
  intro b3 w3 S3
  refine J.run 5 K22_1 [(4, .pointer (some ⟨b3, 0, none⟩)), (3, .pointer (some ⟨b2, 0, none⟩)), (2, .pointer (some ⟨b1, 0, none⟩))] w3 (by kernel_rfl) ?_
  refine J.ok (OK.ldBox S3 2 6 25 0 (.agg #[.slice m.gX_a m.gX_n m.gX_c, .slice m.gY_a m.gY_n m.gY_c, .slice m.gZ_a m.gZ_n m.gZ_c]) (by kernel_rfl) rfl (by kernel_rfl)) ?_
  refine J.callF 7 15 #[.agg #[.slice m.gX_a m.gX_n m.gX_c, .slice m.gY_a m.gY_n m.gY_c, .slice m.gZ_a m.gZ_n m.gZ_c]] hb15 (by kernel_rfl) (valid_any m _ (mpQ_sep hm S3)) ?_
  rintro _ w4 ⟨rfl, T1⟩
  have S4 : Sep w [box b3 [.slice none 0 0, .slice none 0 0] 40, box b2 [.int .i64 y] 3, box b1 [.slice m.gX_a m.gX_n m.gX_c, .slice m.gY_a m.gY_n m.gY_c, .slice m.gZ_a m.gZ_n m.gZ_c] 25] w4 := S3.trans T1
  clear T1 S3
  refine J.run 2 K22_2 [(8, .bool (!(validM m))), (4, .pointer (some ⟨b3, 0, none⟩)), (3, .pointer (some ⟨b2, 0, none⟩)), (2, .pointer (some ⟨b1, 0, none⟩))] w4 (by kernel_rfl) ?_
  rcases Bool.eq_false_or_eq_true (validM m) with fk1 | fk1
  · skip
    refine J.head (.bool false) (congrArg Value.bool (by rw [fk1]; rfl)) ?_
    have hv := fk1
    obtain ⟨hv1, hv2, hv3, hv4⟩ := valid_facts hv
    obtain ⟨hx1, hx2, hx3⟩ := axis_facts hv1
    obtain ⟨hy1, hy2, hy3⟩ := axis_facts hv2
    have hX : m.gX_l.length = m.gX_n := by omega
    have hY : m.gY_l.length = m.gY_n := by omega
    have vm := vm_of hv (by omega) fun i hi => row_len hm hi
    have hX0 := hx2 0 (by omega)
    have hX1 := hx2 ((m.gX_n : Int) - 1).toNat (by omega)
    have hXm := axis_mono hv1 (show 0 < ((m.gX_n : Int) - 1).toNat by omega) (by omega)
    refine J.run 3 K22_3 [(4, .pointer (some ⟨b3, 0, none⟩)), (3, .pointer (some ⟨b2, 0, none⟩)), (2, .pointer (some ⟨b1, 0, none⟩))] w4 (by kernel_rfl) ?_
    refine J.drawPlan (fun w_ => Sep w [box b2 [.int .i64 y] 3, box b1 [.slice m.gX_a m.gX_n m.gX_c, .slice m.gY_a m.gY_n m.gY_c, .slice m.gZ_a m.gZ_n m.gZ_c] 25] w_) [(0, true), (1, true), (3, true), (4, true), (5, true), (2, false), (6, false), (7, true), (8, false), (9, true)] S4 Try.mixed (by kernel_rfl) (planOK_of (T := [(0, some 10, 4), (1, some 11, 1024), (2, some 12, 2048), (0, some 13, 4), (8, some 14, 8192), (0, some 15, 12), (52, some 16, 49152), (68, some 17, 69632), (255, none, 131088), (511, some 5, 0)]) (by kernel_rfl) (by kernel_rfl)) ?_
    intro w5 S5
    refine PB.mk (S5.sub (.cons _ (.cons_cons _ (.cons_cons _ (.slnil))))) ?_
    refine PL.take 0 10 (.pointer (some ⟨b1, 0, none⟩)) (fun _ _ => by kernel_rfl) ?_
    refine PL.takeOK 1 (fun w_ S_ => OK.ldBox S_ 1 11 22 0 (.slice m.gX_a m.gX_n m.gX_c) (by kernel_rfl) rfl (by kernel_rfl)) rfl ?_
    refine PL.take 3 13 (.pointer (some ⟨b1, 0, none⟩)) (fun _ _ => by kernel_rfl) ?_
    refine PL.takeOK 4 (fun w_ S_ => OK.ldBox S_ 1 14 22 0 (.slice m.gX_a m.gX_n m.gX_c) (by kernel_rfl) rfl (by kernel_rfl)) rfl ?_
    refine PL.take 5 15 (.func (.func 49) #[] #[.pointer (some ⟨b1, 0, none⟩), .pointer (some ⟨b2, 0, none⟩)]) (fun _ _ => by kernel_rfl) ?_
    refine PL.callF 12 46 #[.slice m.gX_a m.gX_n m.gX_c] hb46 (by kernel_rfl) (clone_any m.gX_a m.gX_n m.gX_c m.gX_l _ (q2.sep S5) (by omega) (by omega)) ?_
    rintro _ w6 ⟨ra1, rc1, rfl, T2⟩
    have S6 : Sep w [rowOf encI ra1 rc1 3 1 m.gX_l, box b3 [.slice none 0 0, .slice none 0 0] 40, box b2 [.int .i64 y] 3, box b1 [.slice m.gX_a m.gX_n m.gX_c, .slice m.gY_a m.gY_n m.gY_c, .slice m.gZ_a m.gZ_n m.gZ_c] 25] w6 := S5.trans T2
    clear T2 S5
    refine PB.mk (S6.sub (.cons _ (.cons _ (.cons_cons _ (.cons_cons _ (.slnil)))))) ?_
    refine PL.callF 16 47 #[.slice m.gX_a m.gX_n m.gX_c, .func (.func 49) #[] #[.pointer (some ⟨b1, 0, none⟩), .pointer (some ⟨b2, 0, none⟩)]] hb47 (by kernel_rfl) (mapped2 m.gX_a m.gX_n m.gX_c m.gX_l 49 (.pointer (some ⟨b1, 0, none⟩)) (.pointer (some ⟨b2, 0, none⟩)) (fun x => valueF m x y) _ (q2.sep S6) (by omega) hb49 (fun i_ w_ hi_ S_ => row1_any m _ y b1 b2 w_ (mpQ_sep (mpQ_sep hm S6) S_) hv (box_keep (S6.nth 3 rfl) S_) (box_keep (S6.nth 2 rfl) S_))) ?_
    rintro _ w7 ⟨ra2, rc2, rfl, T3⟩
    have S7 : Sep w [rowOf encI ra2 rc2 3 1 (List.map (fun x => valueF m x y) m.gX_l), rowOf encI ra1 rc1 3 1 m.gX_l, box b3 [.slice none 0 0, .slice none 0 0] 40, box b2 [.int .i64 y] 3, box b1 [.slice m.gX_a m.gX_n m.gX_c, .slice m.gY_a m.gY_n m.gY_c, .slice m.gZ_a m.gZ_n m.gZ_c] 25] w7 := S6.trans T3
    refine PB.mk (S7.sub (.cons _ (.cons _ (.cons _ (.cons_cons _ (.cons_cons _ (.slnil))))))) ?_
    refine PL.take 7 17 (.agg #[.slice ra1 m.gX_l.length rc1, .slice ra2 ((List.map (fun x => valueF m x y) m.gX_l).length) rc2]) (fun _ _ => by kernel_rfl) ?_
    refine PL.stBox S7 2 40 0 (.agg #[.slice ra1 m.gX_l.length rc1, .slice ra2 ((List.map (fun x => valueF m x y) m.gX_l).length) rc2]) [.slice ra1 m.gX_l.length rc1, .slice ra2 ((List.map (fun x => valueF m x y) m.gX_l).length) rc2] [rowOf encI ra2 rc2 3 1 (List.map (fun x => valueF m x y) m.gX_l), rowOf encI ra1 rc1 3 1 m.gX_l, box b3 [.slice ra1 m.gX_l.length rc1, .slice ra2 ((List.map (fun x => valueF m x y) m.gX_l).length) rc2] 40, box b2 [.int .i64 y] 3, box b1 [.slice m.gX_a m.gX_n m.gX_c, .slice m.gY_a m.gY_n m.gY_c, .slice m.gZ_a m.gZ_n m.gZ_c] 25] (by kernel_rfl) rfl (by kernel_rfl) (by kernel_rfl) rfl ?_
    intro w8 S8
    refine PB.mk (S8.sub (.cons _ (.cons _ (.cons _ (.cons_cons _ (.cons_cons _ (.slnil))))))) ?_
    refine PL.take 9 5 (.int .i64 0) (fun _ _ => by kernel_rfl) ?_
    refine PL.done ?_
    refine J.run 0 (rRest K22_3) [(5, .int .i64 0), (4, .pointer (some ⟨b3, 0, none⟩))] w8 (by kernel_rfl) ?_
    refine J.ret Try.f22 [.agg #[.slice ra1 m.gX_l.length rc1, .slice ra2 ((List.map (fun x => valueF m x y) m.gX_l).length) rc2], .int .i64 0] Try.func22 ⟨⟨⟨b3, 0, none⟩, by kernel_rfl, ldV_run (S8.nth 2 rfl) (by kernel_rfl)⟩, by kernel_rfl, trivial⟩ ?_
    refine hR _ _ ?_
    refine ⟨ra1, rc1, ra2, rc2, ?_, ?_⟩
    · rw [rowN_yes fk1, rowV_yes fk1 y, errM_yes fk1]; rfl
    · rw [rowN_yes fk1, rowV_yes fk1 y]; exact S8.two 1 1 rfl rfl (by decide)
  · skip
    refine J.head (.bool true) (congrArg Value.bool (by rw [fk1]; rfl)) ?_
    refine J.run 4 K22_4 [(9, .agg #[.slice none 0 0, .slice none 0 0]), (4, .pointer (some ⟨b3, 0, none⟩))] w4 (by kernel_rfl) ?_
    refine J.stBox S4 0 40 0 (.agg #[.slice none 0 0, .slice none 0 0]) [.slice none 0 0, .slice none 0 0] [box b3 [.slice none 0 0, .slice none 0 0] 40, box b2 [.int .i64 y] 3, box b1 [.slice m.gX_a m.gX_n m.gX_c, .slice m.gY_a m.gY_n m.gY_c, .slice m.gZ_a m.gZ_n m.gZ_c] 25] (by kernel_rfl) rfl (by kernel_rfl) (by kernel_rfl) rfl ?_
    intro w9 S9
    refine J.run 2 K22_5 [(5, .int .i64 1), (4, .pointer (some ⟨b3, 0, none⟩))] w9 (by kernel_rfl) ?_
    refine J.ret Try.f22 [.agg #[.slice none 0 0, .slice none 0 0], .int .i64 1] Try.func22 ⟨⟨⟨b3, 0, none⟩, by kernel_rfl, ldV_run (S9.nth 0 rfl) (by kernel_rfl)⟩, by kernel_rfl, trivial⟩ ?_
    refine hR _ _ ?_
    obtain ⟨e1, e2, e3⟩ := err_no fk1
    obtain ⟨e4, e5⟩ := errv_no fk1 y
    refine ⟨none, 0, none, 0, ?_, ?_⟩
    · rw [e2, e5, e3]; rfl
    · rw [e2, e5]; exact (S9.nil.nilRow 3 1).nilRow 3 1

theorem hb24 : HasBody Try.prog 24 := fun _ _ => by kernel_rfl
noncomputable def K24_0 : List Item := adv 2 [] (bodyOf Try.f24)
noncomputable def K24_1 : List Item := adv 5 [] (popK (popK K24_0))
noncomputable def K24_2 : List Item := adv 2 [] (popK (popK K24_1))
noncomputable def K24_3 : List Item := adv 5 [false] K24_2
noncomputable def K24_4 : List Item := adv 1 [] (popK (popK K24_3))
noncomputable def K24_5 : List Item := adv 8 [] (popK (popK K24_4))
noncomputable def K24_6 : List Item := adv 5 [] K24_5
noncomputable def K24_7 : List Item := adv 3 [] (popK K24_6)
noncomputable def K24_8 : List Item := adv 4 [true] K24_7
noncomputable def K24_9 : List Item := adv 4 [] (rRest K24_8)
noncomputable def K24_10 : List Item := adv 4 [false] K24_7
noncomputable def K24_11 : List Item := adv 2 [] (popK (popK K24_10))
noncomputable def K24_12 : List Item := adv 4 [true] K24_2
noncomputable def K24_13 : List Item := adv 2 [] (popK K24_12)
set_option maxRecDepth 20000 in
set_option maxHeartbeats 20000000 in
theorem rRow_any (m : Mp) (y : Int) (w : World) (hm : mpQ w m) : Ret Try.prog 24 #[.agg #[.slice m.gX_a m.gX_n m.gX_c, .slice m.gY_a m.gY_n m.gY_c, .slice m.gZ_a m.gZ_n m.gZ_c], .int .i64 y] w (fun v w' => ∃ a c b d, v = .tuple #[.agg #[.slice a (rowN m).length c, .slice b (rowV m y).length d], .int .i64 (errM m)] ∧ Sep w [rowOf encI b d 3 1 (rowV m y), rowOf encI a c 3 1 (rowN m)] w') := by
  have S0 := Sep.refl w
  refine Ret.named fun R hR => ?_
  refine Ret.of_J (N := 37) [(0, .agg #[.slice m.gX_a m.gX_n m.gX_c, .slice m.gY_a m.gY_n m.gY_c, .slice m.gZ_a m.gZ_n m.gZ_c]), (1, .int .i64 y)] Try.func24 rfl rfl (Nat.le_of_ble_eq_true (by kernel_rfl)) (by kernel_rfl) ?_
  obtain ⟨q1, q2, q3, q4, q5, q6, q7, q8, q9, _⟩ := id hm
  have ql1 := q2.len_eq
  have ql2 := q5.len_eq
  have ql3 := q8.len_eq
  refine J.run 2 K24_0 [(0, .agg #[.slice m.gX_a m.gX_n m.gX_c, .slice m.gY_a m.gY_n m.gY_c, .slice m.gZ_a m.gZ_n m.gZ_c]), (1, .int .i64 y)] w (by kernel_rfl) ?_
  refine J.new S0 2 [.slice m.gX_a m.gX_n m.gX_c, .slice m.gY_a m.gY_n m.gY_c, .slice m.gZ_a m.gZ_n m.gZ_c] 25 (by kernel_rfl) ?_
  intro b1 w1 S1
  refine J.new S1 4 [.slice none 0 0, .slice none 0 0] 40 (by kernel_rfl) ?_
  intro b2 w2 S2
  refine J.run 5 K24_1 [(4, .pointer (some ⟨b2, 0, none⟩)), (2, .pointer (some ⟨b1, 0, none⟩)), (1, .int .i64 y)] w2 (by kernel_rfl) ?_
  refine J.ok (OK.ldBox S2 1 8 25 0 (.agg #[.slice m.gX_a m.gX_n m.gX_c, .slice m.gY_a m.gY_n m.gY_c, .slice m.gZ_a m.gZ_n m.gZ_c]) (by kernel_rfl) rfl (by kernel_rfl)) ?_
  refine J.callF 9 16 #[.agg #[.slice m.gX_a m.gX_n m.gX_c, .slice m.gY_a m.gY_n m.gY_c, .slice m.gZ_a m.gZ_n m.gZ_c]] hb16 (by kernel_rfl) (rvalid_any m _ (mpQ_sep hm S2)) ?_
  rintro _ w3 ⟨rfl, T1⟩
  have S3 : Sep w [box b2 [.slice none 0 0, .slice none 0 0] 40, box b1 [.slice m.gX_a m.gX_n m.gX_c, .slice m.gY_a m.gY_n m.gY_c, .slice m.gZ_a m.gZ_n m.gZ_c] 25] w3 := S2.trans T1
  clear T1 S2
  refine J.run 2 K24_2 [(10, .bool (!(validM m))), (4, .pointer (some ⟨b2, 0, none⟩)), (2, .pointer (some ⟨b1, 0, none⟩)), (1, .int .i64 y)] w3 (by kernel_rfl) ?_
  rcases Bool.eq_false_or_eq_true (validM m) with fk1 | fk1
  · skip
    refine J.head (.bool false) (congrArg Value.bool (by rw [fk1]; rfl)) ?_
    have hv := fk1
    obtain ⟨hv1, hv2, hv3, hv4⟩ := valid_facts hv
    obtain ⟨hx1, hx2, hx3⟩ := axis_facts hv1
    obtain ⟨hy1, hy2, hy3⟩ := axis_facts hv2
    have hX : m.gX_l.length = m.gX_n := by omega
    have hY : m.gY_l.length = m.gY_n := by omega
    have vm := vm_of hv (by omega) fun i hi => row_len hm hi
    have hX0 := hx2 0 (by omega)
    have hX1 := hx2 ((m.gX_n : Int) - 1).toNat (by omega)
    have hXm := axis_mono hv1 (show 0 < ((m.gX_n : Int) - 1).toNat by omega) (by omega)
    refine J.run 5 K24_3 [(12, .pointer (some ⟨b1, 0, none⟩)), (4, .pointer (some ⟨b2, 0, none⟩)), (2, .pointer (some ⟨b1, 0, none⟩)), (1, .int .i64 y)] w3 (by kernel_rfl) ?_
    refine J.ok (OK.ldBox S3 1 13 22 0 (.slice m.gX_a m.gX_n m.gX_c) (by kernel_rfl) rfl (by kernel_rfl)) ?_
    refine J.callF 14 50 #[.slice m.gX_a m.gX_n m.gX_c] hb50 (by kernel_rfl) (copied_any m.gX_a m.gX_n m.gX_c m.gX_l _ (q2.sep S3) (by omega) (by omega)) ?_
    rintro _ w4 ⟨ra1, rc1, rfl, T2⟩
    have S4 : Sep w [rowOf encI ra1 rc1 3 1 m.gX_l, box b2 [.slice none 0 0, .slice none 0 0] 40, box b1 [.slice m.gX_a m.gX_n m.gX_c, .slice m.gY_a m.gY_n m.gY_c, .slice m.gZ_a m.gZ_n m.gZ_c] 25] w4 := S3.trans T2
    clear T2 S3
    refine J.run 1 K24_4 [(15, .agg #[.slice ra1 m.gX_l.length rc1, .slice none 0 0]), (4, .pointer (some ⟨b2, 0, none⟩)), (2, .pointer (some ⟨b1, 0, none⟩)), (1, .int .i64 y)] w4 (by kernel_rfl) ?_
    refine J.new S4 6 [.slice none 0 0, .slice none 0 0] 40 (by kernel_rfl) ?_
    intro b3 w5 S5
    refine J.stBox S5 0 40 0 (.agg #[.slice ra1 m.gX_l.length rc1, .slice none 0 0]) [.slice ra1 m.gX_l.length rc1, .slice none 0 0] [box b3 [.slice ra1 m.gX_l.length rc1, .slice none 0 0] 40, rowOf encI ra1 rc1 3 1 m.gX_l, box b2 [.slice none 0 0, .slice none 0 0] 40, box b1 [.slice m.gX_a m.gX_n m.gX_c, .slice m.gY_a m.gY_n m.gY_c, .slice m.gZ_a m.gZ_n m.gZ_c] 25] (by kernel_rfl) rfl (by kernel_rfl) (by kernel_rfl) rfl ?_
    intro w6 S6
    refine J.run 8 K24_5 [(7, .int .i64 0), (6, .pointer (some ⟨b3, 0, none⟩)), (4, .pointer (some ⟨b2, 0, none⟩)), (2, .pointer (some ⟨b1, 0, none⟩)), (1, .int .i64 y)] w6 (by kernel_rfl) ?_
    have S7 : Sep w [rowOf encI none 0 3 1 ([]), box b3 [.slice ra1 m.gX_l.length rc1, .slice none 0 0] 40, rowOf encI ra1 rc1 3 1 m.gX_l, box b2 [.slice none 0 0, .slice none 0 0] 40, box b1 [.slice m.gX_a m.gX_n m.gX_c, .slice m.gY_a m.gY_n m.gY_c, .slice m.gZ_a m.gZ_n m.gZ_c] 25] w6 := S6.nilRow 3 1
    have L24_1 : ∀ (mm_ : Nat) (rb : Option Addr) (rd : Nat) (ys : List Int) (i : Int) (w7 : World), (0 ≤ i) → (i ≤ (m.gX_n : Int)) → (ys = (m.gX_l.map fun x => valueF m x y).take (i).toNat) → Sep w [rowOf encI rb rd 3 1 ys, box b3 [.slice ra1 m.gX_l.length rc1, .slice rb ys.length rd] 40, rowOf encI ra1 rc1 3 1 m.gX_l, box b2 [.slice none 0 0, .slice none 0 0] 40, box b1 [.slice m.gX_a m.gX_n m.gX_c, .slice m.gY_a m.gY_n m.gY_c, .slice m.gZ_a m.gZ_n m.gZ_c] 25] w7 → ((m.gX_n : Int) - i).toNat = mm_ → J Try.prog 24 37 R K24_5 [(7, .int .i64 i), (6, .pointer (some ⟨b3, 0, none⟩)), (4, .pointer (some ⟨b2, 0, none⟩)), (2, .pointer (some ⟨b1, 0, none⟩)), (1, .int .i64 y)] w7 := by
      intro mm1
      induction mm1 using Nat.strongRecOn with
      | _ mm1 ih1 =>
      intro rb rd ys i w7 h0 h1 hys S8 hm1
      have hlsy : ys.length = i.toNat := by rw [hys, List.length_take, List.length_map]; omega
      refine J.run 5 K24_6 [(17, .pointer (some ⟨b1, 0, none⟩)), (16, .int .i64 i), (7, .int .i64 i), (6, .pointer (some ⟨b3, 0, none⟩)), (4, .pointer (some ⟨b2, 0, none⟩)), (2, .pointer (some ⟨b1, 0, none⟩)), (1, .int .i64 y)] w7 (by kernel_rfl) ?_
      refine J.ok (OK.ldBox S8 4 18 22 0 (.slice m.gX_a m.gX_n m.gX_c) (by kernel_rfl) rfl (by kernel_rfl)) ?_
      refine J.run 3 K24_7 [(20, .bool (decide (i < (m.gX_n : Int)))), (7, .int .i64 i), (6, .pointer (some ⟨b3, 0, none⟩)), (4, .pointer (some ⟨b2, 0, none⟩)), (2, .pointer (some ⟨b1, 0, none⟩)), (1, .int .i64 y)] w7 (by kernel_rfl) ?_
      by_cases fk2 : i < (m.gX_n : Int)
      · skip
        refine J.head (.bool true) (congrArg Value.bool (decide_eq_true fk2)) ?_
        refine J.run 4 K24_8 [(7, .int .i64 i), (6, .pointer (some ⟨b3, 0, none⟩)), (4, .pointer (some ⟨b2, 0, none⟩)), (2, .pointer (some ⟨b1, 0, none⟩)), (1, .int .i64 y)] w7 (by kernel_rfl) ?_
        obtain ⟨p1, hp1, hc1⟩ := q2.at 0 (i).toNat (by omega)
        have hel1 := getD_Q q3 0 (n := (i).toNat) (by have := q2.len_eq; omega)
        have W1 : ∀ (ad11 : Option Addr) (cd11 : Nat) (w8 : World), Sep w [rowOf encI ad11 cd11 3 1 (ys ++ [valueF m (m.gX_l.getD (i).toNat 0) y]), box b3 [.slice ra1 m.gX_l.length rc1, .slice ad11 ((ys ++ [valueF m (m.gX_l.getD (i).toNat 0) y]).length) cd11] 40, rowOf encI ra1 rc1 3 1 m.gX_l, box b2 [.slice none 0 0, .slice none 0 0] 40, box b1 [.slice m.gX_a m.gX_n m.gX_c, .slice m.gY_a m.gY_n m.gY_c, .slice m.gZ_a m.gZ_n m.gZ_c] 25] w8 → WA Try.prog 24 37 R K24_8 (fun w_ => Sep w [rowOf encI ra1 rc1 3 1 m.gX_l, box b2 [.slice none 0 0, .slice none 0 0] 40, box b1 [.slice m.gX_a m.gX_n m.gX_c, .slice m.gY_a m.gY_n m.gY_c, .slice m.gZ_a m.gZ_n m.gZ_c] 25] w_) 0 #[true, true, true, true, true, true, true, true, true, true, true, true, true, true] [(1, .int .i64 y), (2, .pointer (some ⟨b1, 0, none⟩)), (4, .pointer (some ⟨b2, 0, none⟩)), (6, .pointer (some ⟨b3, 0, none⟩)), (7, .int .i64 i)] w8 := by
          intro ad11 cd11 w8 S9
          refine WA.done (by kernel_rfl) ?_
          refine J.run 0 (rRest K24_8) [(1, .int .i64 y), (2, .pointer (some ⟨b1, 0, none⟩)), (4, .pointer (some ⟨b2, 0, none⟩)), (6, .pointer (some ⟨b3, 0, none⟩)), (7, .int .i64 i)] w8 (by kernel_rfl) ?_
          refine J.run 4 K24_9 [(22, .int .i64 (IntKind.wrap .i64 (i + 1))), (1, .int .i64 y), (2, .pointer (some ⟨b1, 0, none⟩)), (4, .pointer (some ⟨b2, 0, none⟩)), (6, .pointer (some ⟨b3, 0, none⟩))] w8 (by kernel_rfl) ?_
          refine J.head (.int .i64 (i + 1)) (congrArg (Value.int .i64) (IntWalk.i64_in _ (by omega))) ?_
          refine J.run 3 K24_5 [(7, .int .i64 (i + 1)), (1, .int .i64 y), (2, .pointer (some ⟨b1, 0, none⟩)), (4, .pointer (some ⟨b2, 0, none⟩)), (6, .pointer (some ⟨b3, 0, none⟩))] w8 (by kernel_rfl) ?_
          refine J.run 0 K24_5 [(7, .int .i64 (i + 1)), (6, .pointer (some ⟨b3, 0, none⟩)), (4, .pointer (some ⟨b2, 0, none⟩)), (2, .pointer (some ⟨b1, 0, none⟩)), (1, .int .i64 y)] w8 (by kernel_rfl) ?_
          exact ih1 _ (show ((m.gX_n : Int) - (i + 1)).toNat < mm1 from by omega) ad11 cd11 (ys ++ [valueF m (m.gX_l.getD (i).toNat 0) y]) (i + 1) w8 (by omega) (by omega) (by rw [hys, map_take h0 (by omega)]) S9 rfl
        have W2 : ∀ (ad11 : Option Addr) (cd11 : Nat) (w9 : World), Sep w [rowOf encI ad11 cd11 3 1 (ys ++ [valueF m (m.gX_l.getD (i).toNat 0) y]), box b3 [.slice ra1 m.gX_l.length rc1, .slice rb ys.length rd] 40, rowOf encI ra1 rc1 3 1 m.gX_l, box b2 [.slice none 0 0, .slice none 0 0] 40, box b1 [.slice m.gX_a m.gX_n m.gX_c, .slice m.gY_a m.gY_n m.gY_c, .slice m.gZ_a m.gZ_n m.gZ_c] 25] w9 → WA Try.prog 24 37 R K24_8 (fun w_ => Sep w [rowOf encI ra1 rc1 3 1 m.gX_l, box b2 [.slice none 0 0, .slice none 0 0] 40, box b1 [.slice m.gX_a m.gX_n m.gX_c, .slice m.gY_a m.gY_n m.gY_c, .slice m.gZ_a m.gZ_n m.gZ_c] 25] w_) 1 #[true, true, true, true, true, true, true, true, true, true, true, true, true, false] [(1, .int .i64 y), (2, .pointer (some ⟨b1, 0, none⟩)), (4, .pointer (some ⟨b2, 0, none⟩)), (6, .pointer (some ⟨b3, 0, none⟩)), (7, .int .i64 i), (34, .slice ad11 ((ys ++ [valueF m (m.gX_l.getD (i).toNat 0) y]).length) cd11), (35, .pointer (some ⟨b3, 1, none⟩))] w9 := by
          intro ad11 cd11 w9 S10
          refine WA.all [13] (by kernel_rfl) rfl ⟨?_, trivial⟩
          · skip
            refine WO.set #[true, true, true, true, true, true, true, true, true, true, true, true, true, true] (by kernel_rfl) ?_
            refine WO.stBox S10 1 22 1 (.slice ad11 ((ys ++ [valueF m (m.gX_l.getD (i).toNat 0) y]).length) cd11) [.slice ra1 m.gX_l.length rc1, .slice ad11 ((ys ++ [valueF m (m.gX_l.getD (i).toNat 0) y]).length) cd11] [rowOf encI ad11 cd11 3 1 (ys ++ [valueF m (m.gX_l.getD (i).toNat 0) y]), box b3 [.slice ra1 m.gX_l.length rc1, .slice ad11 ((ys ++ [valueF m (m.gX_l.getD (i).toNat 0) y]).length) cd11] 40, rowOf encI ra1 rc1 3 1 m.gX_l, box b2 [.slice none 0 0, .slice none 0 0] 40, box b1 [.slice m.gX_a m.gX_n m.gX_c, .slice m.gY_a m.gY_n m.gY_c, .slice m.gZ_a m.gZ_n m.gZ_c] 25] (by kernel_rfl) rfl (by kernel_rfl) (by kernel_rfl) rfl ?_
            intro w10 S11
            refine WB.mk (S11.sub (.cons _ (.cons _ (.cons_cons _ (.cons_cons _ (.cons_cons _ (.slnil))))))) ?_
            refine WA.weaken (env' := [(1, .int .i64 y), (2, .pointer (some ⟨b1, 0, none⟩)), (4, .pointer (some ⟨b2, 0, none⟩)), (6, .pointer (some ⟨b3, 0, none⟩)), (7, .int .i64 i)]) (by kernel_rfl) ?_
            exact W1 ad11 cd11 w10 S11
        have W3 : ∀ (bd10 : Nat) (w11 : World), Sep w [box bd10 [.int .i64 (valueF m (m.gX_l.getD (i).toNat 0) y)] 3, rowOf encI rb rd 3 1 ys, box b3 [.slice ra1 m.gX_l.length rc1, .slice rb ys.length rd] 40, rowOf encI ra1 rc1 3 1 m.gX_l, box b2 [.slice none 0 0, .slice none 0 0] 40, box b1 [.slice m.gX_a m.gX_n m.gX_c, .slice m.gY_a m.gY_n m.gY_c, .slice m.gZ_a m.gZ_n m.gZ_c] 25] w11 → WA Try.prog 24 37 R K24_8 (fun w_ => Sep w [rowOf encI ra1 rc1 3 1 m.gX_l, box b2 [.slice none 0 0, .slice none 0 0] 40, box b1 [.slice m.gX_a m.gX_n m.gX_c, .slice m.gY_a m.gY_n m.gY_c, .slice m.gZ_a m.gZ_n m.gZ_c] 25] w_) 3 #[true, true, true, true, true, true, true, true, true, true, true, false, false, false] [(1, .int .i64 y), (2, .pointer (some ⟨b1, 0, none⟩)), (4, .pointer (some ⟨b2, 0, none⟩)), (6, .pointer (some ⟨b3, 0, none⟩)), (7, .int .i64 i), (24, .slice rb ys.length rd), (33, .slice (some ⟨bd10, 0, none⟩) 1 1)] w11 := by
          intro bd10 w11 S12
          refine WA.all [11] (by kernel_rfl) rfl ⟨?_, trivial⟩
          · skip
            refine WO.set #[true, true, true, true, true, true, true, true, true, true, true, true, false, false] (by kernel_rfl) ?_
            refine WO.append encI S12 1 ys (valueF m (m.gX_l.getD (i).toNat 0) y) 34 22 (.int .i64 0) 8 ⟨bd10, 0, none⟩ 1 rfl (by kernel_rfl) (by kernel_rfl) (by kernel_rfl) (by kernel_rfl) (by decide) (box_cells (S12.nth 0 rfl)) (by kernel_rfl) (by kernel_rfl) (⟨by omega, by omega⟩) ?_
            intro ad11 cd11 w12 S13
            replace S13 : Sep w [box bd10 [.int .i64 (valueF m (m.gX_l.getD (i).toNat 0) y)] 3, rowOf encI ad11 cd11 3 1 (ys ++ [valueF m (m.gX_l.getD (i).toNat 0) y]), box b3 [.slice ra1 m.gX_l.length rc1, .slice rb ys.length rd] 40, rowOf encI ra1 rc1 3 1 m.gX_l, box b2 [.slice none 0 0, .slice none 0 0] 40, box b1 [.slice m.gX_a m.gX_n m.gX_c, .slice m.gY_a m.gY_n m.gY_c, .slice m.gZ_a m.gZ_n m.gZ_c] 25] w12 := S13
            have S14 : Sep w [rowOf encI ad11 cd11 3 1 (ys ++ [valueF m (m.gX_l.getD (i).toNat 0) y]), box b3 [.slice ra1 m.gX_l.length rc1, .slice rb ys.length rd] 40, rowOf encI ra1 rc1 3 1 m.gX_l, box b2 [.slice none 0 0, .slice none 0 0] 40, box b1 [.slice m.gX_a m.gX_n m.gX_c, .slice m.gY_a m.gY_n m.gY_c, .slice m.gZ_a m.gZ_n m.gZ_c] 25] w12 := S13.erase 0
            clear S13
            refine WB.mk (S14.sub (.cons _ (.cons _ (.cons_cons _ (.cons_cons _ (.cons_cons _ (.slnil))))))) ?_
            refine WA.take 12 35 (.pointer (some ⟨b3, 1, none⟩)) #[true, true, true, true, true, true, true, true, true, true, true, true, true, false] (by kernel_rfl) (by kernel_rfl) (by kernel_rfl) (fun _ _ => by kernel_rfl) (by kernel_rfl) ?_
            refine WA.weaken (env' := [(1, .int .i64 y), (2, .pointer (some ⟨b1, 0, none⟩)), (4, .pointer (some ⟨b2, 0, none⟩)), (6, .pointer (some ⟨b3, 0, none⟩)), (7, .int .i64 i), (34, .slice ad11 ((ys ++ [valueF m (m.gX_l.getD (i).toNat 0) y]).length) cd11), (35, .pointer (some ⟨b3, 1, none⟩))]) (by kernel_rfl) ?_
            exact W2 ad11 cd11 w12 S14
        have W4 : ∀ (w13 : World), Sep w [rowOf encI rb rd 3 1 ys, box b3 [.slice ra1 m.gX_l.length rc1, .slice rb ys.length rd] 40, rowOf encI ra1 rc1 3 1 m.gX_l, box b2 [.slice none 0 0, .slice none 0 0] 40, box b1 [.slice m.gX_a m.gX_n m.gX_c, .slice m.gY_a m.gY_n m.gY_c, .slice m.gZ_a m.gZ_n m.gZ_c] 25] w13 → WA Try.prog 24 37 R K24_8 (fun w_ => Sep w [rowOf encI ra1 rc1 3 1 m.gX_l, box b2 [.slice none 0 0, .slice none 0 0] 40, box b1 [.slice m.gX_a m.gX_n m.gX_c, .slice m.gY_a m.gY_n m.gY_c, .slice m.gZ_a m.gZ_n m.gZ_c] 25] w_) 4 #[true, true, true, true, true, true, true, true, true, true, false, false, false, false] [(1, .int .i64 y), (2, .pointer (some ⟨b1, 0, none⟩)), (4, .pointer (some ⟨b2, 0, none⟩)), (6, .pointer (some ⟨b3, 0, none⟩)), (7, .int .i64 i), (24, .slice rb ys.length rd), (32, .int .i64 (valueF m (m.gX_l.getD (i).toNat 0) y))] w13 := by
          intro w13 S15
          refine WA.all [10] (by kernel_rfl) rfl ⟨?_, trivial⟩
          · skip
            refine WO.set #[true, true, true, true, true, true, true, true, true, true, true, false, false, false] (by kernel_rfl) ?_
            refine WO.newSlice S15 33 1 [.int .i64 (valueF m (m.gX_l.getD (i).toNat 0) y)] 3 (by kernel_rfl) ?_
            intro bd10 w14 S16
            refine WB.mk (S16.sub (.cons _ (.cons _ (.cons _ (.cons_cons _ (.cons_cons _ (.cons_cons _ (.slnil)))))))) ?_
            refine WA.weaken (env' := [(1, .int .i64 y), (2, .pointer (some ⟨b1, 0, none⟩)), (4, .pointer (some ⟨b2, 0, none⟩)), (6, .pointer (some ⟨b3, 0, none⟩)), (7, .int .i64 i), (24, .slice rb ys.length rd), (33, .slice (some ⟨bd10, 0, none⟩) 1 1)]) (by kernel_rfl) ?_
            exact W3 bd10 w14 S16
        have W5 : ∀ (bd10 : Nat) (w15 : World), Sep w [box bd10 [.int .i64 (valueF m (m.gX_l.getD (i).toNat 0) y)] 3, rowOf encI rb rd 3 1 ys, box b3 [.slice ra1 m.gX_l.length rc1, .slice rb ys.length rd] 40, rowOf encI ra1 rc1 3 1 m.gX_l, box b2 [.slice none 0 0, .slice none 0 0] 40, box b1 [.slice m.gX_a m.gX_n m.gX_c, .slice m.gY_a m.gY_n m.gY_c, .slice m.gZ_a m.gZ_n m.gZ_c] 25] w15 → WA Try.prog 24 37 R K24_8 (fun w_ => Sep w [rowOf encI ra1 rc1 3 1 m.gX_l, box b2 [.slice none 0 0, .slice none 0 0] 40, box b1 [.slice m.gX_a m.gX_n m.gX_c, .slice m.gY_a m.gY_n m.gY_c, .slice m.gZ_a m.gZ_n m.gZ_c] 25] w_) 4 #[true, false, true, true, true, true, true, true, true, true, true, false, false, false] [(1, .int .i64 y), (2, .pointer (some ⟨b1, 0, none⟩)), (4, .pointer (some ⟨b2, 0, none⟩)), (6, .pointer (some ⟨b3, 0, none⟩)), (7, .int .i64 i), (23, .pointer (some ⟨b3, 1, none⟩)), (33, .slice (some ⟨bd10, 0, none⟩) 1 1)] w15 := by
          intro bd10 w15 S17
          refine WA.all [1] (by kernel_rfl) rfl ⟨?_, trivial⟩
          · skip
            refine WO.set #[true, true, true, true, true, true, true, true, true, true, true, false, false, false] (by kernel_rfl) ?_
            refine WO.ok (OK.ldBox S17 2 24 22 1 (.slice rb ys.length rd) (by kernel_rfl) rfl (by kernel_rfl)) ?_
            refine WB.mk (S17.sub (.cons _ (.cons _ (.cons _ (.cons_cons _ (.cons_cons _ (.cons_cons _ (.slnil)))))))) ?_
            refine WA.weaken (env' := [(1, .int .i64 y), (2, .pointer (some ⟨b1, 0, none⟩)), (4, .pointer (some ⟨b2, 0, none⟩)), (6, .pointer (some ⟨b3, 0, none⟩)), (7, .int .i64 i), (24, .slice rb ys.length rd), (33, .slice (some ⟨bd10, 0, none⟩) 1 1)]) (by kernel_rfl) ?_
            exact W3 bd10 w15 S17
        have W6 : ∀ (w16 : World), Sep w [rowOf encI rb rd 3 1 ys, box b3 [.slice ra1 m.gX_l.length rc1, .slice rb ys.length rd] 40, rowOf encI ra1 rc1 3 1 m.gX_l, box b2 [.slice none 0 0, .slice none 0 0] 40, box b1 [.slice m.gX_a m.gX_n m.gX_c, .slice m.gY_a m.gY_n m.gY_c, .slice m.gZ_a m.gZ_n m.gZ_c] 25] w16 → WA Try.prog 24 37 R K24_8 (fun w_ => Sep w [rowOf encI ra1 rc1 3 1 m.gX_l, box b2 [.slice none 0 0, .slice none 0 0] 40, box b1 [.slice m.gX_a m.gX_n m.gX_c, .slice m.gY_a m.gY_n m.gY_c, .slice m.gZ_a m.gZ_n m.gZ_c] 25] w_) 5 #[true, true, true, true, true, true, true, true, true, false, false, false, false, false] [(1, .int .i64 y), (2, .pointer (some ⟨b1, 0, none⟩)), (4, .pointer (some ⟨b2, 0, none⟩)), (6, .pointer (some ⟨b3, 0, none⟩)), (7, .int .i64 i), (24, .slice rb ys.length rd), (25, .agg #[.slice m.gX_a m.gX_n m.gX_c, .slice m.gY_a m.gY_n m.gY_c, .slice m.gZ_a m.gZ_n m.gZ_c]), (30, .int .i64 (m.gX_l.getD (i).toNat 0)), (31, .int .i64 y)] w16 := by
          intro w16 S18
          refine WA.all [9] (by kernel_rfl) rfl ⟨?_, trivial⟩
          · skip
            refine WO.set #[true, true, true, true, true, true, true, true, true, true, false, false, false, false] (by kernel_rfl) ?_
            refine WO.callF 32 36 #[.agg #[.slice m.gX_a m.gX_n m.gX_c, .slice m.gY_a m.gY_n m.gY_c, .slice m.gZ_a m.gZ_n m.gZ_c], .int .i64 (m.gX_l.getD (i).toNat 0), .int .i64 y] hb36 (by kernel_rfl) (rvalue_any m (m.gX_l.getD (i).toNat 0) y _ (mpQ_sep hm S18) hv) ?_
            rintro _ w17 ⟨rfl, T3⟩
            have S19 : Sep w [rowOf encI rb rd 3 1 ys, box b3 [.slice ra1 m.gX_l.length rc1, .slice rb ys.length rd] 40, rowOf encI ra1 rc1 3 1 m.gX_l, box b2 [.slice none 0 0, .slice none 0 0] 40, box b1 [.slice m.gX_a m.gX_n m.gX_c, .slice m.gY_a m.gY_n m.gY_c, .slice m.gZ_a m.gZ_n m.gZ_c] 25] w17 := S18.trans T3
            clear T3 S18
            refine WB.mk (S19.sub (.cons _ (.cons _ (.cons_cons _ (.cons_cons _ (.cons_cons _ (.slnil))))))) ?_
            refine WA.weaken (env' := [(1, .int .i64 y), (2, .pointer (some ⟨b1, 0, none⟩)), (4, .pointer (some ⟨b2, 0, none⟩)), (6, .pointer (some ⟨b3, 0, none⟩)), (7, .int .i64 i), (24, .slice rb ys.length rd), (32, .int .i64 (valueF m (m.gX_l.getD (i).toNat 0) y))]) (by kernel_rfl) ?_
            exact W4 w17 S19
        have W7 : ∀ (w18 : World), Sep w [rowOf encI rb rd 3 1 ys, box b3 [.slice ra1 m.gX_l.length rc1, .slice rb ys.length rd] 40, rowOf encI ra1 rc1 3 1 m.gX_l, box b2 [.slice none 0 0, .slice none 0 0] 40, box b1 [.slice m.gX_a m.gX_n m.gX_c, .slice m.gY_a m.gY_n m.gY_c, .slice m.gZ_a m.gZ_n m.gZ_c] 25] w18 → WA Try.prog 24 37 R K24_8 (fun w_ => Sep w [rowOf encI ra1 rc1 3 1 m.gX_l, box b2 [.slice none 0 0, .slice none 0 0] 40, box b1 [.slice m.gX_a m.gX_n m.gX_c, .slice m.gY_a m.gY_n m.gY_c, .slice m.gZ_a m.gZ_n m.gZ_c] 25] w_) 5 #[true, false, true, true, true, true, true, true, true, true, false, false, false, false] [(1, .int .i64 y), (2, .pointer (some ⟨b1, 0, none⟩)), (4, .pointer (some ⟨b2, 0, none⟩)), (6, .pointer (some ⟨b3, 0, none⟩)), (7, .int .i64 i), (23, .pointer (some ⟨b3, 1, none⟩)), (32, .int .i64 (valueF m (m.gX_l.getD (i).toNat 0) y))] w18 := by
          intro w18 S20
          refine WA.all [1, 10] (by kernel_rfl) rfl ⟨?_, ?_, trivial⟩
          · skip
            refine WO.set #[true, true, true, true, true, true, true, true, true, true, false, false, false, false] (by kernel_rfl) ?_
            refine WO.ok (OK.ldBox S20 1 24 22 1 (.slice rb ys.length rd) (by kernel_rfl) rfl (by kernel_rfl)) ?_
            refine WB.mk (S20.sub (.cons _ (.cons _ (.cons_cons _ (.cons_cons _ (.cons_cons _ (.slnil))))))) ?_
            refine WA.weaken (env' := [(1, .int .i64 y), (2, .pointer (some ⟨b1, 0, none⟩)), (4, .pointer (some ⟨b2, 0, none⟩)), (6, .pointer (some ⟨b3, 0, none⟩)), (7, .int .i64 i), (24, .slice rb ys.length rd), (32, .int .i64 (valueF m (m.gX_l.getD (i).toNat 0) y))]) (by kernel_rfl) ?_
            exact W4 w18 S20
          · skip
            refine WO.set #[true, false, true, true, true, true, true, true, true, true, true, false, false, false] (by kernel_rfl) ?_
            refine WO.newSlice S20 33 1 [.int .i64 (valueF m (m.gX_l.getD (i).toNat 0) y)] 3 (by kernel_rfl) ?_
            intro bd10 w19 S21
            refine WB.mk (S21.sub (.cons _ (.cons _ (.cons _ (.cons_cons _ (.cons_cons _ (.cons_cons _ (.slnil)))))))) ?_
            refine WA.weaken (env' := [(1, .int .i64 y), (2, .pointer (some ⟨b1, 0, none⟩)), (4, .pointer (some ⟨b2, 0, none⟩)), (6, .pointer (some ⟨b3, 0, none⟩)), (7, .int .i64 i), (23, .pointer (some ⟨b3, 1, none⟩)), (33, .slice (some ⟨bd10, 0, none⟩) 1 1)]) (by kernel_rfl) ?_
            exact W5 bd10 w19 S21
        have W8 : ∀ (w20 : World), Sep w [rowOf encI rb rd 3 1 ys, box b3 [.slice ra1 m.gX_l.length rc1, .slice rb ys.length rd] 40, rowOf encI ra1 rc1 3 1 m.gX_l, box b2 [.slice none 0 0, .slice none 0 0] 40, box b1 [.slice m.gX_a m.gX_n m.gX_c, .slice m.gY_a m.gY_n m.gY_c, .slice m.gZ_a m.gZ_n m.gZ_c] 25] w20 → WA Try.prog 24 37 R K24_8 (fun w_ => Sep w [rowOf encI ra1 rc1 3 1 m.gX_l, box b2 [.slice none 0 0, .slice none 0 0] 40, box b1 [.slice m.gX_a m.gX_n m.gX_c, .slice m.gY_a m.gY_n m.gY_c, .slice m.gZ_a m.gZ_n m.gZ_c] 25] w_) 6 #[true, false, true, true, true, true, true, true, true, false, false, false, false, false] [(1, .int .i64 y), (2, .pointer (some ⟨b1, 0, none⟩)), (4, .pointer (some ⟨b2, 0, none⟩)), (6, .pointer (some ⟨b3, 0, none⟩)), (7, .int .i64 i), (23, .pointer (some ⟨b3, 1, none⟩)), (25, .agg #[.slice m.gX_a m.gX_n m.gX_c, .slice m.gY_a m.gY_n m.gY_c, .slice m.gZ_a m.gZ_n m.gZ_c]), (30, .int .i64 (m.gX_l.getD (i).toNat 0)), (31, .int .i64 y)] w20 := by
          intro w20 S22
          refine WA.all [1, 9] (by kernel_rfl) rfl ⟨?_, ?_, trivial⟩
          · skip
            refine WO.set #[true, true, true, true, true, true, true, true, true, false, false, false, false, false] (by kernel_rfl) ?_
            refine WO.ok (OK.ldBox S22 1 24 22 1 (.slice rb ys.length rd) (by kernel_rfl) rfl (by kernel_rfl)) ?_
            refine WB.mk (S22.sub (.cons _ (.cons _ (.cons_cons _ (.cons_cons _ (.cons_cons _ (.slnil))))))) ?_
            refine WA.weaken (env' := [(1, .int .i64 y), (2, .pointer (some ⟨b1, 0, none⟩)), (4, .pointer (some ⟨b2, 0, none⟩)), (6, .pointer (some ⟨b3, 0, none⟩)), (7, .int .i64 i), (24, .slice rb ys.length rd), (25, .agg #[.slice m.gX_a m.gX_n m.gX_c, .slice m.gY_a m.gY_n m.gY_c, .slice m.gZ_a m.gZ_n m.gZ_c]), (30, .int .i64 (m.gX_l.getD (i).toNat 0)), (31, .int .i64 y)]) (by kernel_rfl) ?_
            exact W6 w20 S22
          · skip
            refine WO.set #[true, false, true, true, true, true, true, true, true, true, false, false, false, false] (by kernel_rfl) ?_
            refine WO.callF 32 36 #[.agg #[.slice m.gX_a m.gX_n m.gX_c, .slice m.gY_a m.gY_n m.gY_c, .slice m.gZ_a m.gZ_n m.gZ_c], .int .i64 (m.gX_l.getD (i).toNat 0), .int .i64 y] hb36 (by kernel_rfl) (rvalue_any m (m.gX_l.getD (i).toNat 0) y _ (mpQ_sep hm S22) hv) ?_
            rintro _ w21 ⟨rfl, T4⟩
            have S23 : Sep w [rowOf encI rb rd 3 1 ys, box b3 [.slice ra1 m.gX_l.length rc1, .slice rb ys.length rd] 40, rowOf encI ra1 rc1 3 1 m.gX_l, box b2 [.slice none 0 0, .slice none 0 0] 40, box b1 [.slice m.gX_a m.gX_n m.gX_c, .slice m.gY_a m.gY_n m.gY_c, .slice m.gZ_a m.gZ_n m.gZ_c] 25] w21 := S22.trans T4
            clear T4 S22
            refine WB.mk (S23.sub (.cons _ (.cons _ (.cons_cons _ (.cons_cons _ (.cons_cons _ (.slnil))))))) ?_
            refine WA.weaken (env' := [(1, .int .i64 y), (2, .pointer (some ⟨b1, 0, none⟩)), (4, .pointer (some ⟨b2, 0, none⟩)), (6, .pointer (some ⟨b3, 0, none⟩)), (7, .int .i64 i), (23, .pointer (some ⟨b3, 1, none⟩)), (32, .int .i64 (valueF m (m.gX_l.getD (i).toNat 0) y))]) (by kernel_rfl) ?_
            exact W7 w21 S23
        refine J.drawAny (fun w_ => Sep w [rowOf encI ra1 rc1 3 1 m.gX_l, box b2 [.slice none 0 0, .slice none 0 0] 40, box b1 [.slice m.gX_a m.gX_n m.gX_c, .slice m.gY_a m.gY_n m.gY_c, .slice m.gZ_a m.gZ_n m.gZ_c] 25] w_) S8 14 #[false, false, false, false, false, false, false, false, false, false, false, false, false, false] Try.mixed (by kernel_rfl) (by kernel_rfl) (by kernel_rfl) ?_
        intro w22 S24
        refine WB.mk (S24.sub (.cons _ (.cons _ (.cons_cons _ (.cons_cons _ (.cons_cons _ (.slnil))))))) ?_
        refine WA.take 0 23 (.pointer (some ⟨b3, 1, none⟩)) #[true, false, false, false, false, false, false, false, false, false, false, false, false, false] (by kernel_rfl) (by kernel_rfl) (by kernel_rfl) (fun _ _ => by kernel_rfl) (by kernel_rfl) ?_
        refine WA.takeOK 2 #[true, false, true, false, false, false, false, false, false, false, false, false, false, false] (by kernel_rfl) (by kernel_rfl) (by kernel_rfl) (by kernel_rfl) (fun w_ S_ => OK.ldBox S_ 2 25 25 0 (.agg #[.slice m.gX_a m.gX_n m.gX_c, .slice m.gY_a m.gY_n m.gY_c, .slice m.gZ_a m.gZ_n m.gZ_c]) (by kernel_rfl) rfl (by kernel_rfl)) rfl ?_
        refine WA.take 3 26 (.pointer (some ⟨b1, 0, none⟩)) #[true, false, true, true, false, false, false, false, false, false, false, false, false, false] (by kernel_rfl) (by kernel_rfl) (by kernel_rfl) (fun _ _ => by kernel_rfl) (by kernel_rfl) ?_
        refine WA.takeOK 4 #[true, false, true, true, true, false, false, false, false, false, false, false, false, false] (by kernel_rfl) (by kernel_rfl) (by kernel_rfl) (by kernel_rfl) (fun w_ S_ => OK.ldBox S_ 2 27 22 0 (.slice m.gX_a m.gX_n m.gX_c) (by kernel_rfl) rfl (by kernel_rfl)) rfl ?_
        refine WA.take 5 28 (.int .i64 i) #[true, false, true, true, true, true, false, false, false, false, false, false, false, false] (by kernel_rfl) (by kernel_rfl) (by kernel_rfl) (fun _ _ => by kernel_rfl) (by kernel_rfl) ?_
        refine WA.takeOK 6 #[true, false, true, true, true, true, true, false, false, false, false, false, false, false] (by kernel_rfl) (by kernel_rfl) (by kernel_rfl) (by kernel_rfl) (fun w_ S_ => OK.index 29 22 1 m.gX_a p1 m.gX_n (i).toNat i (p1.add (i).toNat) (by kernel_rfl) (by kernel_rfl) hp1 (by omega) (by omega) (by rw [Nat.mul_one])) rfl ?_
        refine WA.takeOK 7 #[true, false, true, true, true, true, true, true, false, false, false, false, false, false] (by kernel_rfl) (by kernel_rfl) (by kernel_rfl) (by kernel_rfl) (fun w_ S_ => OK.ldCell 30 3 (p1.add (i).toNat) (.int .i64 (m.gX_l.getD (i).toNat 0)) (by kernel_rfl) (by kernel_rfl) (S_.cell hc1)) rfl ?_
        refine WA.take 8 31 (.int .i64 y) #[true, false, true, true, true, true, true, true, true, false, false, false, false, false] (by kernel_rfl) (by kernel_rfl) (by kernel_rfl) (fun _ _ => by kernel_rfl) (by kernel_rfl) ?_
        refine WA.weaken (env' := [(1, .int .i64 y), (2, .pointer (some ⟨b1, 0, none⟩)), (4, .pointer (some ⟨b2, 0, none⟩)), (6, .pointer (some ⟨b3, 0, none⟩)), (7, .int .i64 i), (23, .pointer (some ⟨b3, 1, none⟩)), (25, .agg #[.slice m.gX_a m.gX_n m.gX_c, .slice m.gY_a m.gY_n m.gY_c, .slice m.gZ_a m.gZ_n m.gZ_c]), (30, .int .i64 (m.gX_l.getD (i).toNat 0)), (31, .int .i64 y)]) (by kernel_rfl) ?_
        exact W8 w22 S24
      · skip
        refine J.head (.bool false) (congrArg Value.bool (decide_eq_false fk2)) ?_
        refine J.run 4 K24_10 [(6, .pointer (some ⟨b3, 0, none⟩)), (4, .pointer (some ⟨b2, 0, none⟩))] w7 (by kernel_rfl) ?_
        refine J.ok (OK.ldBox S8 1 36 40 0 (.agg #[.slice ra1 m.gX_l.length rc1, .slice rb ys.length rd]) (by kernel_rfl) rfl (by kernel_rfl)) ?_
        refine J.stBox S8 3 40 0 (.agg #[.slice ra1 m.gX_l.length rc1, .slice rb ys.length rd]) [.slice ra1 m.gX_l.length rc1, .slice rb ys.length rd] [rowOf encI rb rd 3 1 ys, box b3 [.slice ra1 m.gX_l.length rc1, .slice rb ys.length rd] 40, rowOf encI ra1 rc1 3 1 m.gX_l, box b2 [.slice ra1 m.gX_l.length rc1, .slice rb ys.length rd] 40, box b1 [.slice m.gX_a m.gX_n m.gX_c, .slice m.gY_a m.gY_n m.gY_c, .slice m.gZ_a m.gZ_n m.gZ_c] 25] (by kernel_rfl) rfl (by kernel_rfl) (by kernel_rfl) rfl ?_
        intro w23 S25
        refine J.run 2 K24_11 [(5, .int .i64 0), (4, .pointer (some ⟨b2, 0, none⟩))] w23 (by kernel_rfl) ?_
        refine J.ret Try.f24 [.agg #[.slice ra1 m.gX_l.length rc1, .slice rb ys.length rd], .int .i64 0] Try.func24 ⟨⟨⟨b2, 0, none⟩, by kernel_rfl, ldV_run (S25.nth 3 rfl) (by kernel_rfl)⟩, by kernel_rfl, trivial⟩ ?_
        refine hR _ _ ?_
        have e_ : ys = m.gX_l.map (fun x => valueF m x y) := by rw [hys]; exact List.take_of_length_le (by rw [List.length_map]; omega)
        subst e_
        refine ⟨ra1, rc1, rb, rd, ?_, ?_⟩
        · rw [rowN_yes fk1, rowV_yes fk1 y, errM_yes fk1]; rfl
        · rw [rowN_yes fk1, rowV_yes fk1 y]; exact S25.two 2 1 rfl rfl (by decide)
    exact L24_1 _ none 0 ([]) 0 w6 (by omega) (by omega) (rfl) S7 rfl
  · skip
    refine J.head (.bool true) (congrArg Value.bool (by rw [fk1]; rfl)) ?_
    refine J.run 4 K24_12 [(11, .agg #[.slice none 0 0, .slice none 0 0]), (4, .pointer (some ⟨b2, 0, none⟩))] w3 (by kernel_rfl) ?_
    refine J.stBox S3 0 40 0 (.agg #[.slice none 0 0, .slice none 0 0]) [.slice none 0 0, .slice none 0 0] [box b2 [.slice none 0 0, .slice none 0 0] 40, box b1 [.slice m.gX_a m.gX_n m.gX_c, .slice m.gY_a m.gY_n m.gY_c, .slice m.gZ_a m.gZ_n m.gZ_c] 25] (by kernel_rfl) rfl (by kernel_rfl) (by kernel_rfl) rfl ?_
    intro w24 S26
    refine J.run 2 K24_13 [(5, .int .i64 1), (4, .pointer (some ⟨b2, 0, none⟩))] w24 (by kernel_rfl) ?_
    refine J.ret Try.f24 [.agg #[.slice none 0 0, .slice none 0 0], .int .i64 1] Try.func24 ⟨⟨⟨b2, 0, none⟩, by kernel_rfl, ldV_run (S26.nth 0 rfl) (by kernel_rfl)⟩, by kernel_rfl, trivial⟩ ?_
    refine hR _ _ ?_
    obtain ⟨e1, e2, e3⟩ := err_no fk1
    obtain ⟨e4, e5⟩ := errv_no fk1 y
    refine ⟨none, 0, none, 0, ?_, ?_⟩
    · rw [e2, e5, e3]; rfl
    · rw [e2, e5]; exact (S26.nil.nilRow 3 1).nilRow 3 1

end Go.Proofs.Ytempepmfifljmaa
