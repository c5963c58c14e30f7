/- Walks of functions of this seat, printed by a program over the engine. Conditions: as each theorem says. -/
import Derived.Test.YtjlmkdaeabjeoaaQ1
namespace Go.Proofs.Ytjlmkdaeabjeoaa
open Go.Eng Go.RowKit
set_option linter.unusedSimpArgs false
set_option linter.unusedVariables false
theorem hb20 : HasBody Try.prog 20 := fun _ _ => by kernel_rfl
noncomputable def K20_0 : List Item := adv 2 [] (bodyOf Try.f20)
noncomputable def K20_1 : List Item := adv 6 [] (popK (popK K20_0))
noncomputable def K20_2 : List Item := adv 2 [] (popK (popK K20_1))
noncomputable def K20_3 : List Item := adv 6 [false] K20_2
noncomputable def K20_4 : List Item := adv 2 [] (popK K20_3)
noncomputable def K20_5 : List Item := adv 6 [false] K20_4
noncomputable def K20_6 : List Item := adv 1 [] (popK K20_5)
noncomputable def K20_7 : List Item := adv 8 [true] K20_6
noncomputable def K20_8 : List Item := adv 3 [] (popK K20_7)
noncomputable def K20_9 : List Item := adv 1 [] K20_6
noncomputable def K20_10 : List Item := adv 2 [] (popK K20_9)
noncomputable def K20_11 : List Item := adv 4 [true] K20_10
noncomputable def K20_12 : List Item := adv 3 [] (popK K20_11)
noncomputable def K20_13 : List Item := adv 5 [false] K20_10
noncomputable def K20_14 : List Item := adv 2 [] (popK (popK K20_13))
noncomputable def K20_15 : List Item := adv 1 [] (popK K20_14)
noncomputable def K20_16 : List Item := adv 1 [] (popK K20_15)
noncomputable def K20_17 : List Item := adv 2 [] (popK K20_16)
noncomputable def K20_18 : List Item := adv 4 [true] K20_4
noncomputable def K20_19 : List Item := adv 3 [] (popK K20_18)
noncomputable def K20_20 : List Item := adv 4 [true] K20_2
noncomputable def K20_21 : List Item := adv 3 [] (popK K20_20)
set_option maxRecDepth 20000 in
set_option maxHeartbeats 20000000 in
theorem rask_any (q a e : Int) (o f : Bool) (now : Int) (w : World) : Ret Try.prog 20 #[.agg #[.int .i64 q, .int .i64 a, .int .i64 e, .bool o, .bool f], .int .i64 now] w (fun v w' => v = askV q a e o f now ∧ Sep w [] w') := by
  have S0 := Sep.refl w
  refine Ret.named fun R hR => ?_
  refine Ret.of_J (N := 32) [(0, .agg #[.int .i64 q, .int .i64 a, .int .i64 e, .bool o, .bool f]), (1, .int .i64 now)] Try.func20 rfl rfl (Nat.le_of_ble_eq_true (by kernel_rfl)) (by kernel_rfl) ?_
  refine J.run 2 K20_0 [(0, .agg #[.int .i64 q, .int .i64 a, .int .i64 e, .bool o, .bool f]), (1, .int .i64 now)] w (by kernel_rfl) ?_
  refine J.new S0 2 [.int .i64 q, .int .i64 a, .int .i64 e, .bool o, .bool f] 31 (by kernel_rfl) ?_
  intro b1 w1 S1
  refine J.new S1 4 [.int .i64 0, .int .i64 0, .int .i64 0, .bool false, .bool false] 31 (by kernel_rfl) ?_
  intro b2 w2 S2
  refine J.run 6 K20_1 [(4, .pointer (some ⟨b2, 0, none⟩)), (2, .pointer (some ⟨b1, 0, none⟩)), (1, .int .i64 now)] w2 (by kernel_rfl) ?_
  refine J.ok (OK.ldBox S2 1 7 31 0 (.agg #[.int .i64 q, .int .i64 a, .int .i64 e, .bool o, .bool f]) (by kernel_rfl) rfl (by kernel_rfl)) ?_
  refine J.callF 8 24 #[.agg #[.int .i64 q, .int .i64 a, .int .i64 e, .bool o, .bool f]] hb24 (by kernel_rfl) (rvalid_any q a e o f _) ?_
  rintro _ w3 ⟨rfl, T1⟩
  have S3 : Sep w [box b2 [.int .i64 0, .int .i64 0, .int .i64 0, .bool false, .bool false] 31, box b1 [.int .i64 q, .int .i64 a, .int .i64 e, .bool o, .bool f] 31] w3 := S2.trans T1
  clear T1 S2
  refine J.run 2 K20_2 [(9, .bool (!(validB q a e o f))), (4, .pointer (some ⟨b2, 0, none⟩)), (2, .pointer (some ⟨b1, 0, none⟩)), (1, .int .i64 now)] w3 (by kernel_rfl) ?_
  rcases Bool.eq_false_or_eq_true (validB q a e o f) with fk1 | fk1
  · skip
    refine J.head (.bool false) (congrArg Value.bool (by rw [fk1]; rfl)) ?_
    have fb1 := validB_bounds fk1
    refine J.run 6 K20_3 [(11, .int .i64 now), (4, .pointer (some ⟨b2, 0, none⟩)), (2, .pointer (some ⟨b1, 0, none⟩)), (1, .int .i64 now)] w3 (by kernel_rfl) ?_
    refine J.callF 12 30 #[.int .i64 now] hb30 (by kernel_rfl) (rtime_any now _) ?_
    rintro _ w4 ⟨rfl, T2⟩
    have S4 : Sep w [box b2 [.int .i64 0, .int .i64 0, .int .i64 0, .bool false, .bool false] 31, box b1 [.int .i64 q, .int .i64 a, .int .i64 e, .bool o, .bool f] 31] w4 := S3.trans T2
    clear T2 S3
    refine J.run 2 K20_4 [(13, .bool (!(instantB now))), (4, .pointer (some ⟨b2, 0, none⟩)), (2, .pointer (some ⟨b1, 0, none⟩)), (1, .int .i64 now)] w4 (by kernel_rfl) ?_
    rcases Bool.eq_false_or_eq_true (instantB now) with fk2 | fk2
    · skip
      refine J.head (.bool false) (congrArg Value.bool (by rw [fk2]; rfl)) ?_
      have fb2 := instantB_iff.1 fk2
      refine J.run 6 K20_5 [(15, .pointer (some ⟨b1, 3, none⟩)), (4, .pointer (some ⟨b2, 0, none⟩)), (2, .pointer (some ⟨b1, 0, none⟩)), (1, .int .i64 now)] w4 (by kernel_rfl) ?_
      refine J.ok (OK.ldBox S4 1 16 4 3 (.bool o) (by kernel_rfl) rfl (by kernel_rfl)) ?_
      refine J.run 1 K20_6 [(17, .bool o), (4, .pointer (some ⟨b2, 0, none⟩)), (2, .pointer (some ⟨b1, 0, none⟩)), (1, .int .i64 now)] w4 (by kernel_rfl) ?_
      rcases Bool.eq_false_or_eq_true o with fk3 | fk3
      · skip
        refine J.head (.bool true) (congrArg Value.bool fk3) ?_
        refine J.run 8 K20_7 [(21, .agg #[.int .i64 0, .int .i64 0, .int .i64 0, .bool false, .bool false]), (4, .pointer (some ⟨b2, 0, none⟩))] w4 (by kernel_rfl) ?_
        refine J.stBox S4 0 31 0 (.agg #[.int .i64 0, .int .i64 0, .int .i64 0, .bool false, .bool false]) [.int .i64 0, .int .i64 0, .int .i64 0, .bool false, .bool false] [box b2 [.int .i64 0, .int .i64 0, .int .i64 0, .bool false, .bool false] 31, box b1 [.int .i64 q, .int .i64 a, .int .i64 e, .bool o, .bool f] 31] (by kernel_rfl) rfl (by kernel_rfl) (by kernel_rfl) rfl ?_
        intro w5 S5
        refine J.run 3 K20_8 [(6, .int .i64 6), (5, .int .i64 0), (4, .pointer (some ⟨b2, 0, none⟩))] w5 (by kernel_rfl) ?_
        refine J.ret Try.f20 [.agg #[.int .i64 0, .int .i64 0, .int .i64 0, .bool false, .bool false], .int .i64 0, .int .i64 6] Try.func20 ⟨⟨⟨b2, 0, none⟩, by kernel_rfl, ldV_run (S5.nth 0 rfl) (by kernel_rfl)⟩, by kernel_rfl, by kernel_rfl, trivial⟩ ?_
        refine hR _ _ ?_
        exact ⟨by (try simp only [askV, zeroQ, tup_one, tup_two, tup_three, fk1, fk2]) <;> simp [askV, zeroQ, tup_one, tup_two, tup_three, fk1, fk2, fk3], S5.nil⟩
      · skip
        refine J.head (.bool false) (congrArg Value.bool fk3) ?_
        refine J.run 1 K20_9 [(18, .pointer (some ⟨b1, 4, none⟩)), (17, .bool false), (4, .pointer (some ⟨b2, 0, none⟩)), (2, .pointer (some ⟨b1, 0, none⟩)), (1, .int .i64 now)] w4 (by kernel_rfl) ?_
        refine J.ok (OK.ldBox S4 1 19 4 4 (.bool f) (by kernel_rfl) rfl (by kernel_rfl)) ?_
        refine J.run 2 K20_10 [(20, .bool f), (4, .pointer (some ⟨b2, 0, none⟩)), (2, .pointer (some ⟨b1, 0, none⟩)), (1, .int .i64 now)] w4 (by kernel_rfl) ?_
        rcases Bool.eq_false_or_eq_true f with fk4 | fk4
        · skip
          refine J.head (.bool true) (congrArg Value.bool fk4) ?_
          refine J.run 4 K20_11 [(21, .agg #[.int .i64 0, .int .i64 0, .int .i64 0, .bool false, .bool false]), (4, .pointer (some ⟨b2, 0, none⟩))] w4 (by kernel_rfl) ?_
          refine J.stBox S4 0 31 0 (.agg #[.int .i64 0, .int .i64 0, .int .i64 0, .bool false, .bool false]) [.int .i64 0, .int .i64 0, .int .i64 0, .bool false, .bool false] [box b2 [.int .i64 0, .int .i64 0, .int .i64 0, .bool false, .bool false] 31, box b1 [.int .i64 q, .int .i64 a, .int .i64 e, .bool o, .bool f] 31] (by kernel_rfl) rfl (by kernel_rfl) (by kernel_rfl) rfl ?_
          intro w6 S6
          refine J.run 3 K20_12 [(6, .int .i64 6), (5, .int .i64 0), (4, .pointer (some ⟨b2, 0, none⟩))] w6 (by kernel_rfl) ?_
          refine J.ret Try.f20 [.agg #[.int .i64 0, .int .i64 0, .int .i64 0, .bool false, .bool false], .int .i64 0, .int .i64 6] Try.func20 ⟨⟨⟨b2, 0, none⟩, by kernel_rfl, ldV_run (S6.nth 0 rfl) (by kernel_rfl)⟩, by kernel_rfl, by kernel_rfl, trivial⟩ ?_
          refine hR _ _ ?_
          exact ⟨by (try simp only [askV, zeroQ, tup_one, tup_two, tup_three, fk1, fk2]) <;> simp [askV, zeroQ, tup_one, tup_two, tup_three, fk1, fk2, fk3, fk4], S6.nil⟩
        · skip
          refine J.head (.bool false) (congrArg Value.bool fk4) ?_
          refine J.run 5 K20_13 [(22, .pointer (some ⟨b1, 0, none⟩)), (4, .pointer (some ⟨b2, 0, none⟩)), (2, .pointer (some ⟨b1, 0, none⟩)), (1, .int .i64 now)] w4 (by kernel_rfl) ?_
          refine J.ok (OK.ldBox S4 1 23 3 0 (.int .i64 q) (by kernel_rfl) rfl (by kernel_rfl)) ?_
          refine J.callF 24 14 #[.int .i64 q] hb14 (by kernel_rfl) (rnext_any q _ (questionB_iff.2 (by omega))) ?_
          rintro _ w7 ⟨rfl, T3⟩
          have S7 : Sep w [box b2 [.int .i64 0, .int .i64 0, .int .i64 0, .bool false, .bool false] 31, box b1 [.int .i64 q, .int .i64 a, .int .i64 e, .bool o, .bool f] 31] w7 := S4.trans T3
          clear T3 S4
          refine J.run 2 K20_14 [(26, .pointer (some ⟨b1, 0, none⟩)), (25, .int .i64 now), (24, .int .i64 (nextF q)), (4, .pointer (some ⟨b2, 0, none⟩)), (2, .pointer (some ⟨b1, 0, none⟩))] w7 (by kernel_rfl) ?_
          refine J.stBox S7 1 3 0 (.int .i64 (nextF q)) [.int .i64 (nextF q), .int .i64 a, .int .i64 e, .bool o, .bool f] [box b2 [.int .i64 0, .int .i64 0, .int .i64 0, .bool false, .bool false] 31, box b1 [.int .i64 (nextF q), .int .i64 a, .int .i64 e, .bool o, .bool f] 31] (by kernel_rfl) rfl (by kernel_rfl) (by kernel_rfl) rfl ?_
          intro w8 S8
          refine J.run 1 K20_15 [(27, .pointer (some ⟨b1, 1, none⟩)), (25, .int .i64 now), (4, .pointer (some ⟨b2, 0, none⟩)), (2, .pointer (some ⟨b1, 0, none⟩))] w8 (by kernel_rfl) ?_
          refine J.stBox S8 1 3 1 (.int .i64 now) [.int .i64 (nextF q), .int .i64 now, .int .i64 e, .bool o, .bool f] [box b2 [.int .i64 0, .int .i64 0, .int .i64 0, .bool false, .bool false] 31, box b1 [.int .i64 (nextF q), .int .i64 now, .int .i64 e, .bool o, .bool f] 31] (by kernel_rfl) rfl (by kernel_rfl) (by kernel_rfl) rfl ?_
          intro w9 S9
          refine J.run 1 K20_16 [(28, .pointer (some ⟨b1, 3, none⟩)), (4, .pointer (some ⟨b2, 0, none⟩)), (2, .pointer (some ⟨b1, 0, none⟩))] w9 (by kernel_rfl) ?_
          refine J.stBox S9 1 4 3 (.bool true) [.int .i64 (nextF q), .int .i64 now, .int .i64 e, .bool true, .bool f] [box b2 [.int .i64 0, .int .i64 0, .int .i64 0, .bool false, .bool false] 31, box b1 [.int .i64 (nextF q), .int .i64 now, .int .i64 e, .bool true, .bool f] 31] (by kernel_rfl) rfl (by kernel_rfl) (by kernel_rfl) rfl ?_
          intro w10 S10
          refine J.run 2 K20_17 [(4, .pointer (some ⟨b2, 0, none⟩)), (2, .pointer (some ⟨b1, 0, none⟩))] w10 (by kernel_rfl) ?_
          have W1 : ∀ (w11 : World), Sep w [box b2 [.int .i64 (nextF q), .int .i64 now, .int .i64 e, .bool true, .bool f] 31, box b1 [.int .i64 (nextF q), .int .i64 now, .int .i64 e, .bool true, .bool f] 31] w11 → WA Try.prog 20 32 R K20_17 0 #[true, true, true, true, true, true] [(2, .pointer (some ⟨b1, 0, none⟩)), (4, .pointer (some ⟨b2, 0, none⟩)), (5, .int .i64 (nextF q)), (6, .int .i64 0), (29, .agg #[.int .i64 (nextF q), .int .i64 now, .int .i64 e, .bool true, .bool f]), (30, .pointer (some ⟨b1, 0, none⟩)), (31, .int .i64 (nextF q))] w11 := by
            intro w11 S11
            refine WA.done (by kernel_rfl) ?_
            refine J.run 0 (rRest K20_17) [(4, .pointer (some ⟨b2, 0, none⟩)), (5, .int .i64 (nextF q)), (6, .int .i64 0)] w11 (by kernel_rfl) ?_
            refine J.ret Try.f20 [.agg #[.int .i64 (nextF q), .int .i64 now, .int .i64 e, .bool true, .bool f], .int .i64 (nextF q), .int .i64 0] Try.func20 ⟨⟨⟨b2, 0, none⟩, by kernel_rfl, ldV_run (S11.nth 0 rfl) (by kernel_rfl)⟩, by kernel_rfl, by kernel_rfl, trivial⟩ ?_
            refine hR _ _ ?_
            exact ⟨by (try simp only [askV, zeroQ, tup_one, tup_two, tup_three, fk1, fk2]) <;> simp [askV, zeroQ, tup_one, tup_two, tup_three, fk1, fk2, fk3, fk4], S11.nil⟩
          have W2 : ∀ (w12 : World), Sep w [box b2 [.int .i64 0, .int .i64 0, .int .i64 0, .bool false, .bool false] 31, box b1 [.int .i64 (nextF q), .int .i64 now, .int .i64 e, .bool true, .bool f] 31] w12 → WA Try.prog 20 32 R K20_17 3 #[true, true, true, false, false, false] [(2, .pointer (some ⟨b1, 0, none⟩)), (4, .pointer (some ⟨b2, 0, none⟩)), (29, .agg #[.int .i64 (nextF q), .int .i64 now, .int .i64 e, .bool true, .bool f]), (30, .pointer (some ⟨b1, 0, none⟩)), (31, .int .i64 (nextF q))] w12 := by
            intro w12 S12
            refine WA.all [3] (by kernel_rfl) rfl ⟨?_, trivial⟩
            · skip
              refine WO.set #[true, true, true, true, false, false] (by kernel_rfl) ?_
              refine WO.stBox S12 0 31 0 (.agg #[.int .i64 (nextF q), .int .i64 now, .int .i64 e, .bool true, .bool f]) [.int .i64 (nextF q), .int .i64 now, .int .i64 e, .bool true, .bool f] [box b2 [.int .i64 (nextF q), .int .i64 now, .int .i64 e, .bool true, .bool f] 31, box b1 [.int .i64 (nextF q), .int .i64 now, .int .i64 e, .bool true, .bool f] 31] (by kernel_rfl) rfl (by kernel_rfl) (by kernel_rfl) rfl ?_
              intro w13 S13
              refine WA.take 4 5 (.int .i64 (nextF q)) #[true, true, true, true, true, false] (by kernel_rfl) (by kernel_rfl) (by kernel_rfl) (fun _ => by kernel_rfl) (by kernel_rfl) ?_
              refine WA.take 5 6 (.int .i64 0) #[true, true, true, true, true, true] (by kernel_rfl) (by kernel_rfl) (by kernel_rfl) (fun _ => by kernel_rfl) (by kernel_rfl) ?_
              refine WA.weaken (env' := [(2, .pointer (some ⟨b1, 0, none⟩)), (4, .pointer (some ⟨b2, 0, none⟩)), (5, .int .i64 (nextF q)), (6, .int .i64 0), (29, .agg #[.int .i64 (nextF q), .int .i64 now, .int .i64 e, .bool true, .bool f]), (30, .pointer (some ⟨b1, 0, none⟩)), (31, .int .i64 (nextF q))]) (by kernel_rfl) ?_
              exact W1 w13 S13
          have W3 : ∀ (w14 : World), Sep w [box b2 [.int .i64 (nextF q), .int .i64 now, .int .i64 e, .bool true, .bool f] 31, box b1 [.int .i64 (nextF q), .int .i64 now, .int .i64 e, .bool true, .bool f] 31] w14 → WA Try.prog 20 32 R K20_17 3 #[true, true, false, true, false, false] [(2, .pointer (some ⟨b1, 0, none⟩)), (4, .pointer (some ⟨b2, 0, none⟩)), (29, .agg #[.int .i64 (nextF q), .int .i64 now, .int .i64 e, .bool true, .bool f]), (30, .pointer (some ⟨b1, 0, none⟩))] w14 := by
            intro w14 S14
            refine WA.all [2] (by kernel_rfl) rfl ⟨?_, trivial⟩
            · skip
              refine WO.set #[true, true, true, true, false, false] (by kernel_rfl) ?_
              refine WO.ok (OK.ldBox S14 1 31 3 0 (.int .i64 (nextF q)) (by kernel_rfl) rfl (by kernel_rfl)) ?_
              refine WA.take 4 5 (.int .i64 (nextF q)) #[true, true, true, true, true, false] (by kernel_rfl) (by kernel_rfl) (by kernel_rfl) (fun _ => by kernel_rfl) (by kernel_rfl) ?_
              refine WA.take 5 6 (.int .i64 0) #[true, true, true, true, true, true] (by kernel_rfl) (by kernel_rfl) (by kernel_rfl) (fun _ => by kernel_rfl) (by kernel_rfl) ?_
              refine WA.weaken (env' := [(2, .pointer (some ⟨b1, 0, none⟩)), (4, .pointer (some ⟨b2, 0, none⟩)), (5, .int .i64 (nextF q)), (6, .int .i64 0), (29, .agg #[.int .i64 (nextF q), .int .i64 now, .int .i64 e, .bool true, .bool f]), (30, .pointer (some ⟨b1, 0, none⟩)), (31, .int .i64 (nextF q))]) (by kernel_rfl) ?_
              exact W1 w14 S14
          have W4 : ∀ (w15 : World), Sep w [box b2 [.int .i64 0, .int .i64 0, .int .i64 0, .bool false, .bool false] 31, box b1 [.int .i64 (nextF q), .int .i64 now, .int .i64 e, .bool true, .bool f] 31] w15 → WA Try.prog 20 32 R K20_17 4 #[true, true, false, false, false, false] [(2, .pointer (some ⟨b1, 0, none⟩)), (4, .pointer (some ⟨b2, 0, none⟩)), (29, .agg #[.int .i64 (nextF q), .int .i64 now, .int .i64 e, .bool true, .bool f]), (30, .pointer (some ⟨b1, 0, none⟩))] w15 := by
            intro w15 S15
            refine WA.all [2, 3] (by kernel_rfl) rfl ⟨?_, ?_, trivial⟩
            · skip
              refine WO.set #[true, true, true, false, false, false] (by kernel_rfl) ?_
              refine WO.ok (OK.ldBox S15 1 31 3 0 (.int .i64 (nextF q)) (by kernel_rfl) rfl (by kernel_rfl)) ?_
              refine WA.weaken (env' := [(2, .pointer (some ⟨b1, 0, none⟩)), (4, .pointer (some ⟨b2, 0, none⟩)), (29, .agg #[.int .i64 (nextF q), .int .i64 now, .int .i64 e, .bool true, .bool f]), (30, .pointer (some ⟨b1, 0, none⟩)), (31, .int .i64 (nextF q))]) (by kernel_rfl) ?_
              exact W2 w15 S15
            · skip
              refine WO.set #[true, true, false, true, false, false] (by kernel_rfl) ?_
              refine WO.stBox S15 0 31 0 (.agg #[.int .i64 (nextF q), .int .i64 now, .int .i64 e, .bool true, .bool f]) [.int .i64 (nextF q), .int .i64 now, .int .i64 e, .bool true, .bool f] [box b2 [.int .i64 (nextF q), .int .i64 now, .int .i64 e, .bool true, .bool f] 31, box b1 [.int .i64 (nextF q), .int .i64 now, .int .i64 e, .bool true, .bool f] 31] (by kernel_rfl) rfl (by kernel_rfl) (by kernel_rfl) rfl ?_
              intro w16 S16
              refine WA.weaken (env' := [(2, .pointer (some ⟨b1, 0, none⟩)), (4, .pointer (some ⟨b2, 0, none⟩)), (29, .agg #[.int .i64 (nextF q), .int .i64 now, .int .i64 e, .bool true, .bool f]), (30, .pointer (some ⟨b1, 0, none⟩))]) (by kernel_rfl) ?_
              exact W3 w16 S16
          have W5 : ∀ (w17 : World), Sep w [box b2 [.int .i64 0, .int .i64 0, .int .i64 0, .bool false, .bool false] 31, box b1 [.int .i64 (nextF q), .int .i64 now, .int .i64 e, .bool true, .bool f] 31] w17 → WA Try.prog 20 32 R K20_17 4 #[false, true, true, false, false, false] [(2, .pointer (some ⟨b1, 0, none⟩)), (4, .pointer (some ⟨b2, 0, none⟩)), (30, .pointer (some ⟨b1, 0, none⟩)), (31, .int .i64 (nextF q))] w17 := by
            intro w17 S17
            refine WA.all [0] (by kernel_rfl) rfl ⟨?_, trivial⟩
            · skip
              refine WO.set #[true, true, true, false, false, false] (by kernel_rfl) ?_
              refine WO.ok (OK.ldBox S17 1 29 31 0 (.agg #[.int .i64 (nextF q), .int .i64 now, .int .i64 e, .bool true, .bool f]) (by kernel_rfl) rfl (by kernel_rfl)) ?_
              refine WA.weaken (env' := [(2, .pointer (some ⟨b1, 0, none⟩)), (4, .pointer (some ⟨b2, 0, none⟩)), (29, .agg #[.int .i64 (nextF q), .int .i64 now, .int .i64 e, .bool true, .bool f]), (30, .pointer (some ⟨b1, 0, none⟩)), (31, .int .i64 (nextF q))]) (by kernel_rfl) ?_
              exact W2 w17 S17
          have W6 : ∀ (w18 : World), Sep w [box b2 [.int .i64 0, .int .i64 0, .int .i64 0, .bool false, .bool false] 31, box b1 [.int .i64 (nextF q), .int .i64 now, .int .i64 e, .bool true, .bool f] 31] w18 → WA Try.prog 20 32 R K20_17 5 #[false, true, false, false, false, false] [(2, .pointer (some ⟨b1, 0, none⟩)), (4, .pointer (some ⟨b2, 0, none⟩)), (30, .pointer (some ⟨b1, 0, none⟩))] w18 := by
            intro w18 S18
            refine WA.all [0, 2] (by kernel_rfl) rfl ⟨?_, ?_, trivial⟩
            · skip
              refine WO.set #[true, true, false, false, false, false] (by kernel_rfl) ?_
              refine WO.ok (OK.ldBox S18 1 29 31 0 (.agg #[.int .i64 (nextF q), .int .i64 now, .int .i64 e, .bool true, .bool f]) (by kernel_rfl) rfl (by kernel_rfl)) ?_
              refine WA.weaken (env' := [(2, .pointer (some ⟨b1, 0, none⟩)), (4, .pointer (some ⟨b2, 0, none⟩)), (29, .agg #[.int .i64 (nextF q), .int .i64 now, .int .i64 e, .bool true, .bool f]), (30, .pointer (some ⟨b1, 0, none⟩))]) (by kernel_rfl) ?_
              exact W4 w18 S18
            · skip
              refine WO.set #[false, true, true, false, false, false] (by kernel_rfl) ?_
              refine WO.ok (OK.ldBox S18 1 31 3 0 (.int .i64 (nextF q)) (by kernel_rfl) rfl (by kernel_rfl)) ?_
              refine WA.weaken (env' := [(2, .pointer (some ⟨b1, 0, none⟩)), (4, .pointer (some ⟨b2, 0, none⟩)), (30, .pointer (some ⟨b1, 0, none⟩)), (31, .int .i64 (nextF q))]) (by kernel_rfl) ?_
              exact W5 w18 S18
          refine J.drawAny S10 6 #[false, false, false, false, false, false] Try.mixed (by kernel_rfl) (by kernel_rfl) (by kernel_rfl) ?_
          intro w19 S19
          refine WA.take 1 30 (.pointer (some ⟨b1, 0, none⟩)) #[false, true, false, false, false, false] (by kernel_rfl) (by kernel_rfl) (by kernel_rfl) (fun _ => by kernel_rfl) (by kernel_rfl) ?_
          refine WA.weaken (env' := [(2, .pointer (some ⟨b1, 0, none⟩)), (4, .pointer (some ⟨b2, 0, none⟩)), (30, .pointer (some ⟨b1, 0, none⟩))]) (by kernel_rfl) ?_
          exact W6 w19 S19
    · skip
      refine J.head (.bool true) (congrArg Value.bool (by rw [fk2]; rfl)) ?_
      refine J.run 4 K20_18 [(14, .agg #[.int .i64 0, .int .i64 0, .int .i64 0, .bool false, .bool false]), (4, .pointer (some ⟨b2, 0, none⟩))] w4 (by kernel_rfl) ?_
      refine J.stBox S4 0 31 0 (.agg #[.int .i64 0, .int .i64 0, .int .i64 0, .bool false, .bool false]) [.int .i64 0, .int .i64 0, .int .i64 0, .bool false, .bool false] [box b2 [.int .i64 0, .int .i64 0, .int .i64 0, .bool false, .bool false] 31, box b1 [.int .i64 q, .int .i64 a, .int .i64 e, .bool o, .bool f] 31] (by kernel_rfl) rfl (by kernel_rfl) (by kernel_rfl) rfl ?_
      intro w20 S20
      refine J.run 3 K20_19 [(6, .int .i64 2), (5, .int .i64 0), (4, .pointer (some ⟨b2, 0, none⟩))] w20 (by kernel_rfl) ?_
      refine J.ret Try.f20 [.agg #[.int .i64 0, .int .i64 0, .int .i64 0, .bool false, .bool false], .int .i64 0, .int .i64 2] Try.func20 ⟨⟨⟨b2, 0, none⟩, by kernel_rfl, ldV_run (S20.nth 0 rfl) (by kernel_rfl)⟩, by kernel_rfl, by kernel_rfl, trivial⟩ ?_
      refine hR _ _ ?_
      exact ⟨by simp [askV, zeroQ, tup_one, tup_two, tup_three, fk1, fk2], S20.nil⟩
  · skip
    refine J.head (.bool true) (congrArg Value.bool (by rw [fk1]; rfl)) ?_
    refine J.run 4 K20_20 [(10, .agg #[.int .i64 0, .int .i64 0, .int .i64 0, .bool false, .bool false]), (4, .pointer (some ⟨b2, 0, none⟩))] w3 (by kernel_rfl) ?_
    refine J.stBox S3 0 31 0 (.agg #[.int .i64 0, .int .i64 0, .int .i64 0, .bool false, .bool false]) [.int .i64 0, .int .i64 0, .int .i64 0, .bool false, .bool false] [box b2 [.int .i64 0, .int .i64 0, .int .i64 0, .bool false, .bool false] 31, box b1 [.int .i64 q, .int .i64 a, .int .i64 e, .bool o, .bool f] 31] (by kernel_rfl) rfl (by kernel_rfl) (by kernel_rfl) rfl ?_
    intro w21 S21
    refine J.run 3 K20_21 [(6, .int .i64 1), (5, .int .i64 0), (4, .pointer (some ⟨b2, 0, none⟩))] w21 (by kernel_rfl) ?_
    refine J.ret Try.f20 [.agg #[.int .i64 0, .int .i64 0, .int .i64 0, .bool false, .bool false], .int .i64 0, .int .i64 1] Try.func20 ⟨⟨⟨b2, 0, none⟩, by kernel_rfl, ldV_run (S21.nth 0 rfl) (by kernel_rfl)⟩, by kernel_rfl, by kernel_rfl, trivial⟩ ?_
    refine hR _ _ ?_
    exact ⟨by simp [askV, zeroQ, tup_one, tup_two, tup_three, fk1], S21.nil⟩

theorem hb22 : HasBody Try.prog 22 := fun _ _ => by kernel_rfl
noncomputable def K22_0 : List Item := adv 2 [] (bodyOf Try.f22)
noncomputable def K22_1 : List Item := adv 5 [] (popK (popK K22_0))
noncomputable def K22_2 : List Item := adv 2 [] (popK (popK K22_1))
noncomputable def K22_3 : List Item := adv 6 [false] K22_2
noncomputable def K22_4 : List Item := adv 2 [] (popK K22_3)
noncomputable def K22_5 : List Item := adv 6 [false] K22_4
noncomputable def K22_6 : List Item := adv 1 [] (popK K22_5)
noncomputable def K22_7 : List Item := adv 2 [] K22_6
noncomputable def K22_8 : List Item := adv 3 [] (popK K22_7)
noncomputable def K22_9 : List Item := adv 4 [true] K22_8
noncomputable def K22_10 : List Item := adv 2 [] (popK K22_9)
noncomputable def K22_11 : List Item := adv 6 [false] K22_8
noncomputable def K22_12 : List Item := adv 1 [] (popK K22_11)
noncomputable def K22_13 : List Item := adv 2 [] K22_12
noncomputable def K22_14 : List Item := adv 1 [] (popK K22_13)
noncomputable def K22_15 : List Item := adv 3 [] K22_14
noncomputable def K22_16 : List Item := adv 3 [true] K22_15
noncomputable def K22_17 : List Item := adv 2 [] (popK (popK (popK K22_16)))
noncomputable def K22_18 : List Item := adv 4 [false] K22_15
noncomputable def K22_19 : List Item := adv 2 [] (popK (popK K22_18))
noncomputable def K22_20 : List Item := adv 12 [false] K22_6
noncomputable def K22_21 : List Item := adv 1 [] (popK K22_20)
noncomputable def K22_22 : List Item := adv 11 [false] K22_21
noncomputable def K22_23 : List Item := adv 2 [] (popK (popK K22_22))
noncomputable def K22_24 : List Item := adv 4 [true] K22_4
noncomputable def K22_25 : List Item := adv 2 [] (popK K22_24)
noncomputable def K22_26 : List Item := adv 4 [true] K22_2
noncomputable def K22_27 : List Item := adv 2 [] (popK K22_26)
set_option maxRecDepth 20000 in
set_option maxHeartbeats 20000000 in
theorem rtick_any (q a e : Int) (o f : Bool) (now : Int) (w : World) : Ret Try.prog 22 #[.agg #[.int .i64 q, .int .i64 a, .int .i64 e, .bool o, .bool f], .int .i64 now] w (fun v w' => v = tickV q a e o f now ∧ Sep w [] w') := by
  have S0 := Sep.refl w
  refine Ret.named fun R hR => ?_
  refine Ret.of_J (N := 35) [(0, .agg #[.int .i64 q, .int .i64 a, .int .i64 e, .bool o, .bool f]), (1, .int .i64 now)] Try.func22 rfl rfl (Nat.le_of_ble_eq_true (by kernel_rfl)) (by kernel_rfl) ?_
  refine J.run 2 K22_0 [(0, .agg #[.int .i64 q, .int .i64 a, .int .i64 e, .bool o, .bool f]), (1, .int .i64 now)] w (by kernel_rfl) ?_
  refine J.new S0 2 [.int .i64 q, .int .i64 a, .int .i64 e, .bool o, .bool f] 31 (by kernel_rfl) ?_
  intro b1 w1 S1
  refine J.new S1 4 [.int .i64 0, .int .i64 0, .int .i64 0, .bool false, .bool false] 31 (by kernel_rfl) ?_
  intro b2 w2 S2
  refine J.run 5 K22_1 [(4, .pointer (some ⟨b2, 0, none⟩)), (2, .pointer (some ⟨b1, 0, none⟩)), (1, .int .i64 now)] w2 (by kernel_rfl) ?_
  refine J.ok (OK.ldBox S2 1 6 31 0 (.agg #[.int .i64 q, .int .i64 a, .int .i64 e, .bool o, .bool f]) (by kernel_rfl) rfl (by kernel_rfl)) ?_
  refine J.callF 7 24 #[.agg #[.int .i64 q, .int .i64 a, .int .i64 e, .bool o, .bool f]] hb24 (by kernel_rfl) (rvalid_any q a e o f _) ?_
  rintro _ w3 ⟨rfl, T1⟩
  have S3 : Sep w [box b2 [.int .i64 0, .int .i64 0, .int .i64 0, .bool false, .bool false] 31, box b1 [.int .i64 q, .int .i64 a, .int .i64 e, .bool o, .bool f] 31] w3 := S2.trans T1
  clear T1 S2
  refine J.run 2 K22_2 [(8, .bool (!(validB q a e o f))), (4, .pointer (some ⟨b2, 0, none⟩)), (2, .pointer (some ⟨b1, 0, none⟩)), (1, .int .i64 now)] w3 (by kernel_rfl) ?_
  rcases Bool.eq_false_or_eq_true (validB q a e o f) with fk1 | fk1
  · skip
    refine J.head (.bool false) (congrArg Value.bool (by rw [fk1]; rfl)) ?_
    have fb1 := validB_bounds fk1
    refine J.run 6 K22_3 [(10, .int .i64 now), (4, .pointer (some ⟨b2, 0, none⟩)), (2, .pointer (some ⟨b1, 0, none⟩)), (1, .int .i64 now)] w3 (by kernel_rfl) ?_
    refine J.callF 11 30 #[.int .i64 now] hb30 (by kernel_rfl) (rtime_any now _) ?_
    rintro _ w4 ⟨rfl, T2⟩
    have S4 : Sep w [box b2 [.int .i64 0, .int .i64 0, .int .i64 0, .bool false, .bool false] 31, box b1 [.int .i64 q, .int .i64 a, .int .i64 e, .bool o, .bool f] 31] w4 := S3.trans T2
    clear T2 S3
    refine J.run 2 K22_4 [(12, .bool (!(instantB now))), (4, .pointer (some ⟨b2, 0, none⟩)), (2, .pointer (some ⟨b1, 0, none⟩)), (1, .int .i64 now)] w4 (by kernel_rfl) ?_
    rcases Bool.eq_false_or_eq_true (instantB now) with fk2 | fk2
    · skip
      refine J.head (.bool false) (congrArg Value.bool (by rw [fk2]; rfl)) ?_
      have fb2 := instantB_iff.1 fk2
      refine J.run 6 K22_5 [(14, .pointer (some ⟨b1, 3, none⟩)), (4, .pointer (some ⟨b2, 0, none⟩)), (2, .pointer (some ⟨b1, 0, none⟩)), (1, .int .i64 now)] w4 (by kernel_rfl) ?_
      refine J.ok (OK.ldBox S4 1 15 4 3 (.bool o) (by kernel_rfl) rfl (by kernel_rfl)) ?_
      refine J.run 1 K22_6 [(16, .bool o), (4, .pointer (some ⟨b2, 0, none⟩)), (2, .pointer (some ⟨b1, 0, none⟩)), (1, .int .i64 now)] w4 (by kernel_rfl) ?_
      rcases Bool.eq_false_or_eq_true o with fk3 | fk3
      · skip
        refine J.head (.bool true) (congrArg Value.bool fk3) ?_
        refine J.run 2 K22_7 [(18, .pointer (some ⟨b1, 1, none⟩)), (17, .int .i64 now), (16, .bool true), (4, .pointer (some ⟨b2, 0, none⟩)), (2, .pointer (some ⟨b1, 0, none⟩)), (1, .int .i64 now)] w4 (by kernel_rfl) ?_
        refine J.ok (OK.ldBox S4 1 19 3 1 (.int .i64 a) (by kernel_rfl) rfl (by kernel_rfl)) ?_
        refine J.run 3 K22_8 [(21, .bool (decide (now < a))), (4, .pointer (some ⟨b2, 0, none⟩)), (2, .pointer (some ⟨b1, 0, none⟩)), (1, .int .i64 now)] w4 (by kernel_rfl) ?_
        by_cases fk4 : now < a
        · skip
          refine J.head (.bool true) (congrArg Value.bool (decide_eq_true fk4)) ?_
          refine J.run 4 K22_9 [(22, .agg #[.int .i64 0, .int .i64 0, .int .i64 0, .bool false, .bool false]), (4, .pointer (some ⟨b2, 0, none⟩))] w4 (by kernel_rfl) ?_
          refine J.stBox S4 0 31 0 (.agg #[.int .i64 0, .int .i64 0, .int .i64 0, .bool false, .bool false]) [.int .i64 0, .int .i64 0, .int .i64 0, .bool false, .bool false] [box b2 [.int .i64 0, .int .i64 0, .int .i64 0, .bool false, .bool false] 31, box b1 [.int .i64 q, .int .i64 a, .int .i64 e, .bool o, .bool f] 31] (by kernel_rfl) rfl (by kernel_rfl) (by kernel_rfl) rfl ?_
          intro w5 S5
          refine J.run 2 K22_10 [(5, .int .i64 16), (4, .pointer (some ⟨b2, 0, none⟩))] w5 (by kernel_rfl) ?_
          refine J.ret Try.f22 [.agg #[.int .i64 0, .int .i64 0, .int .i64 0, .bool false, .bool false], .int .i64 16] Try.func22 ⟨⟨⟨b2, 0, none⟩, by kernel_rfl, ldV_run (S5.nth 0 rfl) (by kernel_rfl)⟩, by kernel_rfl, trivial⟩ ?_
          refine hR _ _ ?_
          exact ⟨by (try simp only [tickV, zeroQ, tup_one, tup_two, tup_three, fk1, fk2, fk4, (decide_eq_true fk4)]) <;> simp [tickV, zeroQ, tup_one, tup_two, tup_three, fk1, fk2, fk4, (decide_eq_true fk4), fk3], S5.nil⟩
        · skip
          refine J.head (.bool false) (congrArg Value.bool (decide_eq_false fk4)) ?_
          refine J.run 6 K22_11 [(23, .pointer (some ⟨b1, 3, none⟩)), (4, .pointer (some ⟨b2, 0, none⟩)), (2, .pointer (some ⟨b1, 0, none⟩)), (1, .int .i64 now)] w4 (by kernel_rfl) ?_
          refine J.ok (OK.ldBox S4 1 24 4 3 (.bool o) (by kernel_rfl) rfl (by kernel_rfl)) ?_
          refine J.run 1 K22_12 [(25, .bool o), (4, .pointer (some ⟨b2, 0, none⟩)), (2, .pointer (some ⟨b1, 0, none⟩)), (1, .int .i64 now)] w4 (by kernel_rfl) ?_
          refine J.head (.bool true) (congrArg Value.bool fk3) ?_
          refine J.run 2 K22_13 [(27, .pointer (some ⟨b1, 1, none⟩)), (26, .int .i64 now), (25, .bool true), (4, .pointer (some ⟨b2, 0, none⟩)), (2, .pointer (some ⟨b1, 0, none⟩))] w4 (by kernel_rfl) ?_
          refine J.ok (OK.ldBox S4 1 28 3 1 (.int .i64 a) (by kernel_rfl) rfl (by kernel_rfl)) ?_
          refine J.run 1 K22_14 [(29, .int .i64 (IntKind.wrap .i64 (now - a))), (25, .bool true), (4, .pointer (some ⟨b2, 0, none⟩)), (2, .pointer (some ⟨b1, 0, none⟩))] w4 (by kernel_rfl) ?_
          refine J.head (.int .i64 (now - a)) (congrArg (Value.int .i64) (IntWalk.i64_in _ (by omega))) ?_
          refine J.run 3 K22_15 [(31, .bool (decide ((now - a) > 20000))), (4, .pointer (some ⟨b2, 0, none⟩)), (2, .pointer (some ⟨b1, 0, none⟩))] w4 (by kernel_rfl) ?_
          by_cases fk6 : (now - a) > 20000
          · skip
            refine J.head (.bool true) (congrArg Value.bool (decide_eq_true fk6)) ?_
            refine J.run 3 K22_16 [(4, .pointer (some ⟨b2, 0, none⟩)), (2, .pointer (some ⟨b1, 0, none⟩))] w4 (by kernel_rfl) ?_
            refine J.ok (OK.ldBox S4 1 32 31 0 (.agg #[.int .i64 q, .int .i64 a, .int .i64 e, .bool o, .bool f]) (by kernel_rfl) rfl (by kernel_rfl)) ?_
            refine J.callF 33 31 #[.agg #[.int .i64 q, .int .i64 a, .int .i64 e, .bool o, .bool f], .bool false] hb31 (by kernel_rfl) (rend_any q a e o f false _ (by omega)) ?_
            rintro _ w6 ⟨rfl, T3⟩
            have S6 : Sep w [box b2 [.int .i64 0, .int .i64 0, .int .i64 0, .bool false, .bool false] 31, box b1 [.int .i64 q, .int .i64 a, .int .i64 e, .bool o, .bool f] 31] w6 := S4.trans T3
            clear T3 S4
            refine J.stBox S6 0 31 0 (.agg #[.int .i64 q, .int .i64 0, .int .i64 (endE e false), .bool false, .bool ((endE e false) == 7)]) [.int .i64 q, .int .i64 0, .int .i64 (endE e false), .bool false, .bool ((endE e false) == 7)] [box b2 [.int .i64 q, .int .i64 0, .int .i64 (endE e false), .bool false, .bool ((endE e false) == 7)] 31, box b1 [.int .i64 q, .int .i64 a, .int .i64 e, .bool o, .bool f] 31] (by kernel_rfl) rfl (by kernel_rfl) (by kernel_rfl) rfl ?_
            intro w7 S7
            refine J.run 2 K22_17 [(5, .int .i64 0), (4, .pointer (some ⟨b2, 0, none⟩))] w7 (by kernel_rfl) ?_
            refine J.ret Try.f22 [.agg #[.int .i64 q, .int .i64 0, .int .i64 (endE e false), .bool false, .bool ((endE e false) == 7)], .int .i64 0] Try.func22 ⟨⟨⟨b2, 0, none⟩, by kernel_rfl, ldV_run (S7.nth 0 rfl) (by kernel_rfl)⟩, by kernel_rfl, trivial⟩ ?_
            refine hR _ _ ?_
            exact ⟨by (try simp only [tickV, zeroQ, tup_one, tup_two, tup_three, fk1, fk2, fk4, (decide_eq_false fk4), fk6, (decide_eq_true fk6)]) <;> simp [tickV, zeroQ, tup_one, tup_two, tup_three, fk1, fk2, fk4, (decide_eq_false fk4), fk6, (decide_eq_true fk6), fk3], S7.nil⟩
          · skip
            refine J.head (.bool false) (congrArg Value.bool (decide_eq_false fk6)) ?_
            refine J.run 4 K22_18 [(4, .pointer (some ⟨b2, 0, none⟩)), (2, .pointer (some ⟨b1, 0, none⟩))] w4 (by kernel_rfl) ?_
            refine J.ok (OK.ldBox S4 1 34 31 0 (.agg #[.int .i64 q, .int .i64 a, .int .i64 e, .bool o, .bool f]) (by kernel_rfl) rfl (by kernel_rfl)) ?_
            refine J.stBox S4 0 31 0 (.agg #[.int .i64 q, .int .i64 a, .int .i64 e, .bool o, .bool f]) [.int .i64 q, .int .i64 a, .int .i64 e, .bool o, .bool f] [box b2 [.int .i64 q, .int .i64 a, .int .i64 e, .bool o, .bool f] 31, box b1 [.int .i64 q, .int .i64 a, .int .i64 e, .bool o, .bool f] 31] (by kernel_rfl) rfl (by kernel_rfl) (by kernel_rfl) rfl ?_
            intro w8 S8
            refine J.run 2 K22_19 [(5, .int .i64 0), (4, .pointer (some ⟨b2, 0, none⟩))] w8 (by kernel_rfl) ?_
            refine J.ret Try.f22 [.agg #[.int .i64 q, .int .i64 a, .int .i64 e, .bool o, .bool f], .int .i64 0] Try.func22 ⟨⟨⟨b2, 0, none⟩, by kernel_rfl, ldV_run (S8.nth 0 rfl) (by kernel_rfl)⟩, by kernel_rfl, trivial⟩ ?_
            refine hR _ _ ?_
            exact ⟨by (try simp only [tickV, zeroQ, tup_one, tup_two, tup_three, fk1, fk2, fk4, (decide_eq_false fk4), fk6, (decide_eq_false fk6)]) <;> simp [tickV, zeroQ, tup_one, tup_two, tup_three, fk1, fk2, fk4, (decide_eq_false fk4), fk6, (decide_eq_false fk6), fk3], S8.nil⟩
      · skip
        refine J.head (.bool false) (congrArg Value.bool fk3) ?_
        refine J.run 12 K22_20 [(23, .pointer (some ⟨b1, 3, none⟩)), (4, .pointer (some ⟨b2, 0, none⟩)), (2, .pointer (some ⟨b1, 0, none⟩)), (1, .int .i64 now)] w4 (by kernel_rfl) ?_
        refine J.ok (OK.ldBox S4 1 24 4 3 (.bool o) (by kernel_rfl) rfl (by kernel_rfl)) ?_
        refine J.run 1 K22_21 [(25, .bool o), (4, .pointer (some ⟨b2, 0, none⟩)), (2, .pointer (some ⟨b1, 0, none⟩)), (1, .int .i64 now)] w4 (by kernel_rfl) ?_
        refine J.head (.bool false) (congrArg Value.bool fk3) ?_
        refine J.run 11 K22_22 [(4, .pointer (some ⟨b2, 0, none⟩)), (2, .pointer (some ⟨b1, 0, none⟩))] w4 (by kernel_rfl) ?_
        refine J.ok (OK.ldBox S4 1 34 31 0 (.agg #[.int .i64 q, .int .i64 a, .int .i64 e, .bool o, .bool f]) (by kernel_rfl) rfl (by kernel_rfl)) ?_
        refine J.stBox S4 0 31 0 (.agg #[.int .i64 q, .int .i64 a, .int .i64 e, .bool o, .bool f]) [.int .i64 q, .int .i64 a, .int .i64 e, .bool o, .bool f] [box b2 [.int .i64 q, .int .i64 a, .int .i64 e, .bool o, .bool f] 31, box b1 [.int .i64 q, .int .i64 a, .int .i64 e, .bool o, .bool f] 31] (by kernel_rfl) rfl (by kernel_rfl) (by kernel_rfl) rfl ?_
        intro w9 S9
        refine J.run 2 K22_23 [(5, .int .i64 0), (4, .pointer (some ⟨b2, 0, none⟩))] w9 (by kernel_rfl) ?_
        refine J.ret Try.f22 [.agg #[.int .i64 q, .int .i64 a, .int .i64 e, .bool o, .bool f], .int .i64 0] Try.func22 ⟨⟨⟨b2, 0, none⟩, by kernel_rfl, ldV_run (S9.nth 0 rfl) (by kernel_rfl)⟩, by kernel_rfl, trivial⟩ ?_
        refine hR _ _ ?_
        exact ⟨by (try simp only [tickV, zeroQ, tup_one, tup_two, tup_three, fk1, fk2]) <;> simp [tickV, zeroQ, tup_one, tup_two, tup_three, fk1, fk2, fk3], S9.nil⟩
    · skip
      refine J.head (.bool true) (congrArg Value.bool (by rw [fk2]; rfl)) ?_
      refine J.run 4 K22_24 [(13, .agg #[.int .i64 0, .int .i64 0, .int .i64 0, .bool false, .bool false]), (4, .pointer (some ⟨b2, 0, none⟩))] w4 (by kernel_rfl) ?_
      refine J.stBox S4 0 31 0 (.agg #[.int .i64 0, .int .i64 0, .int .i64 0, .bool false, .bool false]) [.int .i64 0, .int .i64 0, .int .i64 0, .bool false, .bool false] [box b2 [.int .i64 0, .int .i64 0, .int .i64 0, .bool false, .bool false] 31, box b1 [.int .i64 q, .int .i64 a, .int .i64 e, .bool o, .bool f] 31] (by kernel_rfl) rfl (by kernel_rfl) (by kernel_rfl) rfl ?_
      intro w10 S10
      refine J.run 2 K22_25 [(5, .int .i64 2), (4, .pointer (some ⟨b2, 0, none⟩))] w10 (by kernel_rfl) ?_
      refine J.ret Try.f22 [.agg #[.int .i64 0, .int .i64 0, .int .i64 0, .bool false, .bool false], .int .i64 2] Try.func22 ⟨⟨⟨b2, 0, none⟩, by kernel_rfl, ldV_run (S10.nth 0 rfl) (by kernel_rfl)⟩, by kernel_rfl, trivial⟩ ?_
      refine hR _ _ ?_
      exact ⟨by simp [tickV, zeroQ, tup_one, tup_two, tup_three, fk1, fk2], S10.nil⟩
  · skip
    refine J.head (.bool true) (congrArg Value.bool (by rw [fk1]; rfl)) ?_
    refine J.run 4 K22_26 [(9, .agg #[.int .i64 0, .int .i64 0, .int .i64 0, .bool false, .bool false]), (4, .pointer (some ⟨b2, 0, none⟩))] w3 (by kernel_rfl) ?_
    refine J.stBox S3 0 31 0 (.agg #[.int .i64 0, .int .i64 0, .int .i64 0, .bool false, .bool false]) [.int .i64 0, .int .i64 0, .int .i64 0, .bool false, .bool false] [box b2 [.int .i64 0, .int .i64 0, .int .i64 0, .bool false, .bool false] 31, box b1 [.int .i64 q, .int .i64 a, .int .i64 e, .bool o, .bool f] 31] (by kernel_rfl) rfl (by kernel_rfl) (by kernel_rfl) rfl ?_
    intro w11 S11
    refine J.run 2 K22_27 [(5, .int .i64 1), (4, .pointer (some ⟨b2, 0, none⟩))] w11 (by kernel_rfl) ?_
    refine J.ret Try.f22 [.agg #[.int .i64 0, .int .i64 0, .int .i64 0, .bool false, .bool false], .int .i64 1] Try.func22 ⟨⟨⟨b2, 0, none⟩, by kernel_rfl, ldV_run (S11.nth 0 rfl) (by kernel_rfl)⟩, by kernel_rfl, trivial⟩ ?_
    refine hR _ _ ?_
    exact ⟨by simp [tickV, zeroQ, tup_one, tup_two, tup_three, fk1], S11.nil⟩

theorem hb21 : HasBody Try.prog 21 := fun _ _ => by kernel_rfl
noncomputable def K21_0 : List Item := adv 2 [] (bodyOf Try.f21)
noncomputable def K21_1 : List Item := adv 5 [] (popK (popK K21_0))
noncomputable def K21_2 : List Item := adv 2 [] (popK (popK K21_1))
noncomputable def K21_3 : List Item := adv 1 [] K21_2
noncomputable def K21_4 : List Item := adv 3 [] (popK K21_3)
noncomputable def K21_5 : List Item := adv 6 [false] K21_4
noncomputable def K21_6 : List Item := adv 2 [] (popK K21_5)
noncomputable def K21_7 : List Item := adv 4 [] K21_6
noncomputable def K21_8 : List Item := adv 8 [true] K21_7
noncomputable def K21_9 : List Item := adv 2 [] (popK K21_8)
noncomputable def K21_10 : List Item := adv 4 [] K21_7
noncomputable def K21_11 : List Item := adv 4 [true] K21_10
noncomputable def K21_12 : List Item := adv 2 [] (popK K21_11)
noncomputable def K21_13 : List Item := adv 6 [false] K21_10
noncomputable def K21_14 : List Item := adv 2 [] (popK K21_13)
noncomputable def K21_15 : List Item := adv 7 [false] K21_14
noncomputable def K21_16 : List Item := adv 2 [] (popK K21_15)
noncomputable def K21_17 : List Item := adv 4 [true] K21_16
noncomputable def K21_18 : List Item := adv 2 [] (popK K21_17)
noncomputable def K21_19 : List Item := adv 6 [false] K21_16
noncomputable def K21_20 : List Item := adv 1 [] (popK K21_19)
noncomputable def K21_21 : List Item := adv 3 [] K21_20
noncomputable def K21_22 : List Item := adv 4 [true] K21_14
noncomputable def K21_23 : List Item := adv 2 [] (popK K21_22)
noncomputable def K21_24 : List Item := adv 12 [true] K21_6
noncomputable def K21_25 : List Item := adv 2 [] (popK K21_24)
noncomputable def K21_26 : List Item := adv 4 [true] K21_4
noncomputable def K21_27 : List Item := adv 2 [] (popK K21_26)
noncomputable def K21_28 : List Item := adv 9 [true] K21_2
noncomputable def K21_29 : List Item := adv 2 [] (popK K21_28)
set_option maxRecDepth 20000 in
set_option maxHeartbeats 20000000 in
theorem rreply_any (q a e : Int) (o f : Bool) (now x : Int) (la : Option Addr) (len cap : Nat) (l : List Int) (w : World) (hI : Ints w la len l) (hlen : len ≤ 9223372036854775807) : Ret Try.prog 21 #[.agg #[.int .i64 q, .int .i64 a, .int .i64 e, .bool o, .bool f], .int .i64 now, .int .i64 x, .slice la len cap] w (fun v w' => v = replyV q a e o f now x l ∧ Sep w [] w') := by
  have S0 := Sep.refl w
  refine Ret.named fun R hR => ?_
  refine Ret.of_J (N := 61) [(0, .agg #[.int .i64 q, .int .i64 a, .int .i64 e, .bool o, .bool f]), (1, .int .i64 now), (2, .int .i64 x), (3, .slice la len cap)] Try.func21 rfl rfl (Nat.le_of_ble_eq_true (by kernel_rfl)) (by kernel_rfl) ?_
  refine J.run 2 K21_0 [(0, .agg #[.int .i64 q, .int .i64 a, .int .i64 e, .bool o, .bool f]), (1, .int .i64 now), (2, .int .i64 x), (3, .slice la len cap)] w (by kernel_rfl) ?_
  refine J.new S0 4 [.int .i64 q, .int .i64 a, .int .i64 e, .bool o, .bool f] 31 (by kernel_rfl) ?_
  intro b1 w1 S1
  refine J.new S1 8 [.int .i64 0, .int .i64 0, .int .i64 0, .bool false, .bool false] 31 (by kernel_rfl) ?_
  intro b2 w2 S2
  refine J.run 5 K21_1 [(8, .pointer (some ⟨b2, 0, none⟩)), (4, .pointer (some ⟨b1, 0, none⟩)), (1, .int .i64 now), (2, .int .i64 x), (3, .slice la len cap)] w2 (by kernel_rfl) ?_
  refine J.ok (OK.ldBox S2 1 11 31 0 (.agg #[.int .i64 q, .int .i64 a, .int .i64 e, .bool o, .bool f]) (by kernel_rfl) rfl (by kernel_rfl)) ?_
  refine J.callF 12 24 #[.agg #[.int .i64 q, .int .i64 a, .int .i64 e, .bool o, .bool f]] hb24 (by kernel_rfl) (rvalid_any q a e o f _) ?_
  rintro _ w3 ⟨rfl, T1⟩
  have S3 : Sep w [box b2 [.int .i64 0, .int .i64 0, .int .i64 0, .bool false, .bool false] 31, box b1 [.int .i64 q, .int .i64 a, .int .i64 e, .bool o, .bool f] 31] w3 := S2.trans T1
  clear T1 S2
  refine J.run 2 K21_2 [(14, .bool (!(validB q a e o f))), (8, .pointer (some ⟨b2, 0, none⟩)), (4, .pointer (some ⟨b1, 0, none⟩)), (1, .int .i64 now), (2, .int .i64 x), (3, .slice la len cap)] w3 (by kernel_rfl) ?_
  rcases Bool.eq_false_or_eq_true (validB q a e o f) with fk1 | fk1
  · skip
    refine J.head (.bool false) (congrArg Value.bool (by rw [fk1]; rfl)) ?_
    have fb1 := validB_bounds fk1
    refine J.run 1 K21_3 [(15, .slice la len cap), (14, .bool false), (8, .pointer (some ⟨b2, 0, none⟩)), (4, .pointer (some ⟨b1, 0, none⟩)), (1, .int .i64 now), (2, .int .i64 x), (3, .slice la len cap)] w3 (by kernel_rfl) ?_
    refine J.callF 16 15 #[.slice la len cap] hb15 (by kernel_rfl) (good_any la len cap l _ (hI.sep S3) (by omega)) ?_
    rintro _ w4 ⟨rfl, T2⟩
    have S4 : Sep w [box b2 [.int .i64 0, .int .i64 0, .int .i64 0, .bool false, .bool false] 31, box b1 [.int .i64 q, .int .i64 a, .int .i64 e, .bool o, .bool f] 31] w4 := S3.trans T2
    clear T2 S3
    refine J.run 3 K21_4 [(18, .bool (!(partsB l))), (8, .pointer (some ⟨b2, 0, none⟩)), (4, .pointer (some ⟨b1, 0, none⟩)), (1, .int .i64 now), (2, .int .i64 x), (3, .slice la len cap)] w4 (by kernel_rfl) ?_
    rcases Bool.eq_false_or_eq_true (partsB l) with fk2 | fk2
    · skip
      refine J.head (.bool false) (congrArg Value.bool (by rw [fk2]; rfl)) ?_
      refine J.run 6 K21_5 [(20, .int .i64 now), (8, .pointer (some ⟨b2, 0, none⟩)), (4, .pointer (some ⟨b1, 0, none⟩)), (1, .int .i64 now), (2, .int .i64 x), (3, .slice la len cap)] w4 (by kernel_rfl) ?_
      refine J.callF 21 30 #[.int .i64 now] hb30 (by kernel_rfl) (rtime_any now _) ?_
      rintro _ w5 ⟨rfl, T3⟩
      have S5 : Sep w [box b2 [.int .i64 0, .int .i64 0, .int .i64 0, .bool false, .bool false] 31, box b1 [.int .i64 q, .int .i64 a, .int .i64 e, .bool o, .bool f] 31] w5 := S4.trans T3
      clear T3 S4
      refine J.run 2 K21_6 [(23, .bool (!(instantB now))), (8, .pointer (some ⟨b2, 0, none⟩)), (4, .pointer (some ⟨b1, 0, none⟩)), (1, .int .i64 now), (2, .int .i64 x), (3, .slice la len cap)] w5 (by kernel_rfl) ?_
      rcases Bool.eq_false_or_eq_true (instantB now) with fk3 | fk3
      · skip
        refine J.head (.bool false) (congrArg Value.bool (by rw [fk3]; rfl)) ?_
        have fb2 := instantB_iff.1 fk3
        refine J.run 4 K21_7 [(27, .bool (decide (x < 0))), (8, .pointer (some ⟨b2, 0, none⟩)), (4, .pointer (some ⟨b1, 0, none⟩)), (1, .int .i64 now), (2, .int .i64 x), (3, .slice la len cap)] w5 (by kernel_rfl) ?_
        by_cases fk4 : x < 0
        · skip
          refine J.head (.bool true) (congrArg Value.bool (decide_eq_true fk4)) ?_
          refine J.run 8 K21_8 [(31, .agg #[.int .i64 0, .int .i64 0, .int .i64 0, .bool false, .bool false]), (8, .pointer (some ⟨b2, 0, none⟩))] w5 (by kernel_rfl) ?_
          refine J.stBox S5 0 31 0 (.agg #[.int .i64 0, .int .i64 0, .int .i64 0, .bool false, .bool false]) [.int .i64 0, .int .i64 0, .int .i64 0, .bool false, .bool false] [box b2 [.int .i64 0, .int .i64 0, .int .i64 0, .bool false, .bool false] 31, box b1 [.int .i64 q, .int .i64 a, .int .i64 e, .bool o, .bool f] 31] (by kernel_rfl) rfl (by kernel_rfl) (by kernel_rfl) rfl ?_
          intro w6 S6
          refine J.run 2 K21_9 [(9, .int .i64 2), (8, .pointer (some ⟨b2, 0, none⟩))] w6 (by kernel_rfl) ?_
          refine J.ret Try.f21 [.agg #[.int .i64 0, .int .i64 0, .int .i64 0, .bool false, .bool false], .int .i64 2] Try.func21 ⟨⟨⟨b2, 0, none⟩, by kernel_rfl, ldV_run (S6.nth 0 rfl) (by kernel_rfl)⟩, by kernel_rfl, trivial⟩ ?_
          refine hR _ _ ?_
          have hw : wordB x = false := by (simp [wordB]; omega)
          exact ⟨by simp [replyV, replyR, zeroQ, hw, tup_one, tup_two, tup_three, fk1, fk2, fk3], S6.nil⟩
        · skip
          refine J.head (.bool false) (congrArg Value.bool (decide_eq_false fk4)) ?_
          refine J.run 4 K21_10 [(30, .bool (decide (x > 65535))), (8, .pointer (some ⟨b2, 0, none⟩)), (4, .pointer (some ⟨b1, 0, none⟩)), (1, .int .i64 now), (2, .int .i64 x), (3, .slice la len cap)] w5 (by kernel_rfl) ?_
          by_cases fk5 : x > 65535
          · skip
            refine J.head (.bool true) (congrArg Value.bool (decide_eq_true fk5)) ?_
            refine J.run 4 K21_11 [(31, .agg #[.int .i64 0, .int .i64 0, .int .i64 0, .bool false, .bool false]), (8, .pointer (some ⟨b2, 0, none⟩))] w5 (by kernel_rfl) ?_
            refine J.stBox S5 0 31 0 (.agg #[.int .i64 0, .int .i64 0, .int .i64 0, .bool false, .bool false]) [.int .i64 0, .int .i64 0, .int .i64 0, .bool false, .bool false] [box b2 [.int .i64 0, .int .i64 0, .int .i64 0, .bool false, .bool false] 31, box b1 [.int .i64 q, .int .i64 a, .int .i64 e, .bool o, .bool f] 31] (by kernel_rfl) rfl (by kernel_rfl) (by kernel_rfl) rfl ?_
            intro w7 S7
            refine J.run 2 K21_12 [(9, .int .i64 2), (8, .pointer (some ⟨b2, 0, none⟩))] w7 (by kernel_rfl) ?_
            refine J.ret Try.f21 [.agg #[.int .i64 0, .int .i64 0, .int .i64 0, .bool false, .bool false], .int .i64 2] Try.func21 ⟨⟨⟨b2, 0, none⟩, by kernel_rfl, ldV_run (S7.nth 0 rfl) (by kernel_rfl)⟩, by kernel_rfl, trivial⟩ ?_
            refine hR _ _ ?_
            have hw : wordB x = false := by (simp [wordB]; omega)
            exact ⟨by simp [replyV, replyR, zeroQ, hw, tup_one, tup_two, tup_three, fk1, fk2, fk3], S7.nil⟩
          · skip
            refine J.head (.bool false) (congrArg Value.bool (decide_eq_false fk5)) ?_
            refine J.run 6 K21_13 [(32, .pointer (some ⟨b1, 3, none⟩)), (8, .pointer (some ⟨b2, 0, none⟩)), (4, .pointer (some ⟨b1, 0, none⟩)), (1, .int .i64 now), (2, .int .i64 x), (3, .slice la len cap)] w5 (by kernel_rfl) ?_
            refine J.ok (OK.ldBox S5 1 33 4 3 (.bool o) (by kernel_rfl) rfl (by kernel_rfl)) ?_
            refine J.run 2 K21_14 [(34, .bool (!o)), (8, .pointer (some ⟨b2, 0, none⟩)), (4, .pointer (some ⟨b1, 0, none⟩)), (1, .int .i64 now), (2, .int .i64 x), (3, .slice la len cap)] w5 (by kernel_rfl) ?_
            rcases Bool.eq_false_or_eq_true o with fk6 | fk6
            · skip
              refine J.head (.bool false) (congrArg Value.bool (by rw [fk6]; rfl)) ?_
              refine J.run 7 K21_15 [(37, .pointer (some ⟨b1, 1, none⟩)), (36, .int .i64 now), (8, .pointer (some ⟨b2, 0, none⟩)), (4, .pointer (some ⟨b1, 0, none⟩)), (1, .int .i64 now), (2, .int .i64 x), (3, .slice la len cap)] w5 (by kernel_rfl) ?_
              refine J.ok (OK.ldBox S5 1 38 3 1 (.int .i64 a) (by kernel_rfl) rfl (by kernel_rfl)) ?_
              refine J.run 2 K21_16 [(39, .bool (decide (now < a))), (8, .pointer (some ⟨b2, 0, none⟩)), (4, .pointer (some ⟨b1, 0, none⟩)), (1, .int .i64 now), (2, .int .i64 x), (3, .slice la len cap)] w5 (by kernel_rfl) ?_
              by_cases fk7 : now < a
              · skip
                refine J.head (.bool true) (congrArg Value.bool (decide_eq_true fk7)) ?_
                refine J.run 4 K21_17 [(40, .agg #[.int .i64 0, .int .i64 0, .int .i64 0, .bool false, .bool false]), (8, .pointer (some ⟨b2, 0, none⟩))] w5 (by kernel_rfl) ?_
                refine J.stBox S5 0 31 0 (.agg #[.int .i64 0, .int .i64 0, .int .i64 0, .bool false, .bool false]) [.int .i64 0, .int .i64 0, .int .i64 0, .bool false, .bool false] [box b2 [.int .i64 0, .int .i64 0, .int .i64 0, .bool false, .bool false] 31, box b1 [.int .i64 q, .int .i64 a, .int .i64 e, .bool o, .bool f] 31] (by kernel_rfl) rfl (by kernel_rfl) (by kernel_rfl) rfl ?_
                intro w8 S8
                refine J.run 2 K21_18 [(9, .int .i64 16), (8, .pointer (some ⟨b2, 0, none⟩))] w8 (by kernel_rfl) ?_
                refine J.ret Try.f21 [.agg #[.int .i64 0, .int .i64 0, .int .i64 0, .bool false, .bool false], .int .i64 16] Try.func21 ⟨⟨⟨b2, 0, none⟩, by kernel_rfl, ldV_run (S8.nth 0 rfl) (by kernel_rfl)⟩, by kernel_rfl, trivial⟩ ?_
                refine hR _ _ ?_
                have hw : wordB x = true := wordB_iff.2 (by omega)
                exact ⟨by (try simp only [replyV, replyR, zeroQ, hw, tup_one, tup_two, tup_three, fk1, fk2, fk3, fk7, (decide_eq_true fk7)]) <;> simp [replyV, replyR, zeroQ, hw, tup_one, tup_two, tup_three, fk1, fk2, fk3, fk7, (decide_eq_true fk7), fk6], S8.nil⟩
              · skip
                refine J.head (.bool false) (congrArg Value.bool (decide_eq_false fk7)) ?_
                refine J.run 6 K21_19 [(42, .pointer (some ⟨b1, 1, none⟩)), (41, .int .i64 now), (8, .pointer (some ⟨b2, 0, none⟩)), (4, .pointer (some ⟨b1, 0, none⟩)), (2, .int .i64 x), (3, .slice la len cap)] w5 (by kernel_rfl) ?_
                refine J.ok (OK.ldBox S5 1 43 3 1 (.int .i64 a) (by kernel_rfl) rfl (by kernel_rfl)) ?_
                refine J.run 1 K21_20 [(44, .int .i64 (IntKind.wrap .i64 (now - a))), (8, .pointer (some ⟨b2, 0, none⟩)), (4, .pointer (some ⟨b1, 0, none⟩)), (2, .int .i64 x), (3, .slice la len cap)] w5 (by kernel_rfl) ?_
                refine J.head (.int .i64 (now - a)) (congrArg (Value.int .i64) (IntWalk.i64_in _ (by omega))) ?_
                refine J.run 3 K21_21 [(10, .int .i64 (now - a)), (8, .pointer (some ⟨b2, 0, none⟩)), (4, .pointer (some ⟨b1, 0, none⟩)), (2, .int .i64 x), (3, .slice la len cap)] w5 (by kernel_rfl) ?_
                by_cases fk8 : x = (ansF q l)
                · skip
                  by_cases fk9 : (now - a) ≥ 10000
                  · skip
                    have W1 : ∀ (w9 : World), Sep w [box b2 [.int .i64 q, .int .i64 0, .int .i64 (endE e (decide ((now - a) ≤ 20000))), .bool false, .bool ((endE e (decide ((now - a) ≤ 20000))) == 7)] 31, box b1 [.int .i64 q, .int .i64 a, .int .i64 e, .bool o, .bool f] 31] w9 → WA Try.prog 21 61 R K21_21 0 #[true, true, true, true, true, true, true, true, true, true, true, true, true, true, true, true, true, true] [(2, .int .i64 x), (3, .slice la len cap), (4, .pointer (some ⟨b1, 0, none⟩)), (8, .pointer (some ⟨b2, 0, none⟩)), (9, .int .i64 0), (10, .int .i64 (now - a)), (45, .agg #[.int .i64 q, .int .i64 a, .int .i64 e, .bool o, .bool f]), (46, .int .i64 x), (47, .pointer (some ⟨b1, 0, none⟩)), (48, .int .i64 q), (49, .slice la len cap), (50, .int .i64 (ansF q l)), (51, .bool true), (52, .bool true), (53, .int .i64 (now - a)), (54, .bool true), (55, .bool true), (56, .bool true), (57, .int .i64 (now - a)), (58, .bool (decide ((now - a) ≤ 20000))), (59, .bool (decide ((now - a) ≤ 20000))), (60, .agg #[.int .i64 q, .int .i64 0, .int .i64 (endE e (decide ((now - a) ≤ 20000))), .bool false, .bool ((endE e (decide ((now - a) ≤ 20000))) == 7)])] w9 := by
                      intro w9 S9
                      refine WA.done (by kernel_rfl) ?_
                      refine J.run 0 (rRest K21_21) [(8, .pointer (some ⟨b2, 0, none⟩)), (9, .int .i64 0)] w9 (by kernel_rfl) ?_
                      refine J.ret Try.f21 [.agg #[.int .i64 q, .int .i64 0, .int .i64 (endE e (decide ((now - a) ≤ 20000))), .bool false, .bool ((endE e (decide ((now - a) ≤ 20000))) == 7)], .int .i64 0] Try.func21 ⟨⟨⟨b2, 0, none⟩, by kernel_rfl, ldV_run (S9.nth 0 rfl) (by kernel_rfl)⟩, by kernel_rfl, trivial⟩ ?_
                      refine hR _ _ ?_
                      have hw : wordB x = true := wordB_iff.2 (by omega)
                      exact ⟨by (try simp only [replyV, replyR, zeroQ, hw, tup_one, tup_two, tup_three, fk1, fk2, fk3, fk7, (decide_eq_false fk7), (beq_iff_eq.2 fk8), (beq_iff_eq.2 (Eq.symm fk8)), (Eq.symm fk8), fk9, (decide_eq_true fk9)]) <;> simp [replyV, replyR, zeroQ, hw, tup_one, tup_two, tup_three, fk1, fk2, fk3, fk7, (decide_eq_false fk7), (beq_iff_eq.2 fk8), (beq_iff_eq.2 (Eq.symm fk8)), (Eq.symm fk8), fk9, (decide_eq_true fk9), fk6], S9.nil⟩
                    have W2 : ∀ (w10 : World), Sep w [box b2 [.int .i64 0, .int .i64 0, .int .i64 0, .bool false, .bool false] 31, box b1 [.int .i64 q, .int .i64 a, .int .i64 e, .bool o, .bool f] 31] w10 → WA Try.prog 21 61 R K21_21 2 #[true, true, true, true, true, true, true, true, true, true, true, true, true, true, true, true, false, false] [(2, .int .i64 x), (3, .slice la len cap), (4, .pointer (some ⟨b1, 0, none⟩)), (8, .pointer (some ⟨b2, 0, none⟩)), (10, .int .i64 (now - a)), (45, .agg #[.int .i64 q, .int .i64 a, .int .i64 e, .bool o, .bool f]), (46, .int .i64 x), (47, .pointer (some ⟨b1, 0, none⟩)), (48, .int .i64 q), (49, .slice la len cap), (50, .int .i64 (ansF q l)), (51, .bool true), (52, .bool true), (53, .int .i64 (now - a)), (54, .bool true), (55, .bool true), (56, .bool true), (57, .int .i64 (now - a)), (58, .bool (decide ((now - a) ≤ 20000))), (59, .bool (decide ((now - a) ≤ 20000))), (60, .agg #[.int .i64 q, .int .i64 0, .int .i64 (endE e (decide ((now - a) ≤ 20000))), .bool false, .bool ((endE e (decide ((now - a) ≤ 20000))) == 7)])] w10 := by
                      intro w10 S10
                      refine WA.all [16] (by kernel_rfl) rfl ⟨?_, trivial⟩
                      · skip
                        refine WO.set #[true, true, true, true, true, true, true, true, true, true, true, true, true, true, true, true, true, false] (by kernel_rfl) ?_
                        refine WO.stBox S10 0 31 0 (.agg #[.int .i64 q, .int .i64 0, .int .i64 (endE e (decide ((now - a) ≤ 20000))), .bool false, .bool ((endE e (decide ((now - a) ≤ 20000))) == 7)]) [.int .i64 q, .int .i64 0, .int .i64 (endE e (decide ((now - a) ≤ 20000))), .bool false, .bool ((endE e (decide ((now - a) ≤ 20000))) == 7)] [box b2 [.int .i64 q, .int .i64 0, .int .i64 (endE e (decide ((now - a) ≤ 20000))), .bool false, .bool ((endE e (decide ((now - a) ≤ 20000))) == 7)] 31, box b1 [.int .i64 q, .int .i64 a, .int .i64 e, .bool o, .bool f] 31] (by kernel_rfl) rfl (by kernel_rfl) (by kernel_rfl) rfl ?_
                        intro w11 S11
                        refine WA.take 17 9 (.int .i64 0) #[true, true, true, true, true, true, true, true, true, true, true, true, true, true, true, true, true, true] (by kernel_rfl) (by kernel_rfl) (by kernel_rfl) (fun _ => by kernel_rfl) (by kernel_rfl) ?_
                        refine WA.weaken (env' := [(2, .int .i64 x), (3, .slice la len cap), (4, .pointer (some ⟨b1, 0, none⟩)), (8, .pointer (some ⟨b2, 0, none⟩)), (9, .int .i64 0), (10, .int .i64 (now - a)), (45, .agg #[.int .i64 q, .int .i64 a, .int .i64 e, .bool o, .bool f]), (46, .int .i64 x), (47, .pointer (some ⟨b1, 0, none⟩)), (48, .int .i64 q), (49, .slice la len cap), (50, .int .i64 (ansF q l)), (51, .bool true), (52, .bool true), (53, .int .i64 (now - a)), (54, .bool true), (55, .bool true), (56, .bool true), (57, .int .i64 (now - a)), (58, .bool (decide ((now - a) ≤ 20000))), (59, .bool (decide ((now - a) ≤ 20000))), (60, .agg #[.int .i64 q, .int .i64 0, .int .i64 (endE e (decide ((now - a) ≤ 20000))), .bool false, .bool ((endE e (decide ((now - a) ≤ 20000))) == 7)])]) (by kernel_rfl) ?_
                        exact W1 w11 S11
                    have W3 : ∀ (w12 : World), Sep w [box b2 [.int .i64 0, .int .i64 0, .int .i64 0, .bool false, .bool false] 31, box b1 [.int .i64 q, .int .i64 a, .int .i64 e, .bool o, .bool f] 31] w12 → WA Try.prog 21 61 R K21_21 3 #[true, true, true, true, true, true, true, true, true, true, true, true, true, true, true, false, false, false] [(2, .int .i64 x), (3, .slice la len cap), (4, .pointer (some ⟨b1, 0, none⟩)), (8, .pointer (some ⟨b2, 0, none⟩)), (10, .int .i64 (now - a)), (45, .agg #[.int .i64 q, .int .i64 a, .int .i64 e, .bool o, .bool f]), (46, .int .i64 x), (47, .pointer (some ⟨b1, 0, none⟩)), (48, .int .i64 q), (49, .slice la len cap), (50, .int .i64 (ansF q l)), (51, .bool true), (52, .bool true), (53, .int .i64 (now - a)), (54, .bool true), (55, .bool true), (56, .bool true), (57, .int .i64 (now - a)), (58, .bool (decide ((now - a) ≤ 20000))), (59, .bool (decide ((now - a) ≤ 20000)))] w12 := by
                      intro w12 S12
                      refine WA.all [15] (by kernel_rfl) rfl ⟨?_, trivial⟩
                      · skip
                        refine WO.set #[true, true, true, true, true, true, true, true, true, true, true, true, true, true, true, true, false, false] (by kernel_rfl) ?_
                        refine WO.callF 60 31 #[.agg #[.int .i64 q, .int .i64 a, .int .i64 e, .bool o, .bool f], .bool (decide ((now - a) ≤ 20000))] hb31 (by kernel_rfl) (rend_any q a e o f (decide ((now - a) ≤ 20000)) _ (by omega)) ?_
                        rintro _ w13 ⟨rfl, T4⟩
                        have S13 : Sep w [box b2 [.int .i64 0, .int .i64 0, .int .i64 0, .bool false, .bool false] 31, box b1 [.int .i64 q, .int .i64 a, .int .i64 e, .bool o, .bool f] 31] w13 := S12.trans T4
                        clear T4 S12
                        refine WA.weaken (env' := [(2, .int .i64 x), (3, .slice la len cap), (4, .pointer (some ⟨b1, 0, none⟩)), (8, .pointer (some ⟨b2, 0, none⟩)), (10, .int .i64 (now - a)), (45, .agg #[.int .i64 q, .int .i64 a, .int .i64 e, .bool o, .bool f]), (46, .int .i64 x), (47, .pointer (some ⟨b1, 0, none⟩)), (48, .int .i64 q), (49, .slice la len cap), (50, .int .i64 (ansF q l)), (51, .bool true), (52, .bool true), (53, .int .i64 (now - a)), (54, .bool true), (55, .bool true), (56, .bool true), (57, .int .i64 (now - a)), (58, .bool (decide ((now - a) ≤ 20000))), (59, .bool (decide ((now - a) ≤ 20000))), (60, .agg #[.int .i64 q, .int .i64 0, .int .i64 (endE e (decide ((now - a) ≤ 20000))), .bool false, .bool ((endE e (decide ((now - a) ≤ 20000))) == 7)])]) (by kernel_rfl) ?_
                        exact W2 w13 S13
                    have W4 : ∀ (w14 : World), Sep w [box b2 [.int .i64 0, .int .i64 0, .int .i64 0, .bool false, .bool false] 31, box b1 [.int .i64 q, .int .i64 a, .int .i64 e, .bool o, .bool f] 31] w14 → WA Try.prog 21 61 R K21_21 4 #[false, true, true, true, true, true, true, true, true, true, true, true, true, true, true, false, false, false] [(2, .int .i64 x), (3, .slice la len cap), (4, .pointer (some ⟨b1, 0, none⟩)), (8, .pointer (some ⟨b2, 0, none⟩)), (10, .int .i64 (now - a)), (46, .int .i64 x), (47, .pointer (some ⟨b1, 0, none⟩)), (48, .int .i64 q), (49, .slice la len cap), (50, .int .i64 (ansF q l)), (51, .bool true), (52, .bool true), (53, .int .i64 (now - a)), (54, .bool true), (55, .bool true), (56, .bool true), (57, .int .i64 (now - a)), (58, .bool (decide ((now - a) ≤ 20000))), (59, .bool (decide ((now - a) ≤ 20000)))] w14 := by
                      intro w14 S14
                      refine WA.all [0] (by kernel_rfl) rfl ⟨?_, trivial⟩
                      · skip
                        refine WO.set #[true, true, true, true, true, true, true, true, true, true, true, true, true, true, true, false, false, false] (by kernel_rfl) ?_
                        refine WO.ok (OK.ldBox S14 1 45 31 0 (.agg #[.int .i64 q, .int .i64 a, .int .i64 e, .bool o, .bool f]) (by kernel_rfl) rfl (by kernel_rfl)) ?_
                        refine WA.weaken (env' := [(2, .int .i64 x), (3, .slice la len cap), (4, .pointer (some ⟨b1, 0, none⟩)), (8, .pointer (some ⟨b2, 0, none⟩)), (10, .int .i64 (now - a)), (45, .agg #[.int .i64 q, .int .i64 a, .int .i64 e, .bool o, .bool f]), (46, .int .i64 x), (47, .pointer (some ⟨b1, 0, none⟩)), (48, .int .i64 q), (49, .slice la len cap), (50, .int .i64 (ansF q l)), (51, .bool true), (52, .bool true), (53, .int .i64 (now - a)), (54, .bool true), (55, .bool true), (56, .bool true), (57, .int .i64 (now - a)), (58, .bool (decide ((now - a) ≤ 20000))), (59, .bool (decide ((now - a) ≤ 20000)))]) (by kernel_rfl) ?_
                        exact W3 w14 S14
                    have W5 : ∀ (w15 : World), Sep w [box b2 [.int .i64 0, .int .i64 0, .int .i64 0, .bool false, .bool false] 31, box b1 [.int .i64 q, .int .i64 a, .int .i64 e, .bool o, .bool f] 31] w15 → WA Try.prog 21 61 R K21_21 13 #[true, true, true, true, true, false, false, false, false, false, false, false, false, false, false, false, false, false] [(2, .int .i64 x), (3, .slice la len cap), (4, .pointer (some ⟨b1, 0, none⟩)), (8, .pointer (some ⟨b2, 0, none⟩)), (10, .int .i64 (now - a)), (45, .agg #[.int .i64 q, .int .i64 a, .int .i64 e, .bool o, .bool f]), (46, .int .i64 x), (47, .pointer (some ⟨b1, 0, none⟩)), (48, .int .i64 q), (49, .slice la len cap)] w15 := by
                      intro w15 S15
                      refine WA.all [5] (by kernel_rfl) rfl ⟨?_, trivial⟩
                      · skip
                        refine WO.set #[true, true, true, true, true, true, false, false, false, false, false, false, false, false, false, false, false, false] (by kernel_rfl) ?_
                        refine WO.callF 50 16 #[.int .i64 q, .slice la len cap] hb16 (by kernel_rfl) (ranswer_any q la len cap l _ (hI.sep S15) (by omega) (questionB_iff.2 (by omega)) fk2) ?_
                        rintro _ w16 ⟨rfl, T5⟩
                        have S16 : Sep w [box b2 [.int .i64 0, .int .i64 0, .int .i64 0, .bool false, .bool false] 31, box b1 [.int .i64 q, .int .i64 a, .int .i64 e, .bool o, .bool f] 31] w16 := S15.trans T5
                        clear T5 S15
                        refine WA.take 6 51 (.bool (x == (ansF q l))) #[true, true, true, true, true, true, true, false, false, false, false, false, false, false, false, false, false, false] (by kernel_rfl) (by kernel_rfl) (by kernel_rfl) (fun _ => by kernel_rfl) (by kernel_rfl) ?_
                        refine WA.head (.bool true) (congrArg Value.bool (beq_iff_eq.2 fk8)) ?_
                        refine WA.take 7 52 (.bool true) #[true, true, true, true, true, true, true, true, false, false, false, false, false, false, false, false, false, false] (by kernel_rfl) (by kernel_rfl) (by kernel_rfl) (fun _ => by kernel_rfl) (by kernel_rfl) ?_
                        refine WA.take 8 53 (.int .i64 (now - a)) #[true, true, true, true, true, true, true, true, true, false, false, false, false, false, false, false, false, false] (by kernel_rfl) (by kernel_rfl) (by kernel_rfl) (fun _ => by kernel_rfl) (by kernel_rfl) ?_
                        refine WA.take 9 54 (.bool (decide ((now - a) ≥ 10000))) #[true, true, true, true, true, true, true, true, true, true, false, false, false, false, false, false, false, false] (by kernel_rfl) (by kernel_rfl) (by kernel_rfl) (fun _ => by kernel_rfl) (by kernel_rfl) ?_
                        refine WA.head (.bool true) (congrArg Value.bool (decide_eq_true fk9)) ?_
                        refine WA.take 10 55 (.bool true) #[true, true, true, true, true, true, true, true, true, true, true, false, false, false, false, false, false, false] (by kernel_rfl) (by kernel_rfl) (by kernel_rfl) (fun _ => by kernel_rfl) (by kernel_rfl) ?_
                        refine WA.take 11 56 (.bool true) #[true, true, true, true, true, true, true, true, true, true, true, true, false, false, false, false, false, false] (by kernel_rfl) (by kernel_rfl) (by kernel_rfl) (fun _ => by kernel_rfl) (by kernel_rfl) ?_
                        refine WA.take 12 57 (.int .i64 (now - a)) #[true, true, true, true, true, true, true, true, true, true, true, true, true, false, false, false, false, false] (by kernel_rfl) (by kernel_rfl) (by kernel_rfl) (fun _ => by kernel_rfl) (by kernel_rfl) ?_
                        refine WA.take 13 58 (.bool (decide ((now - a) ≤ 20000))) #[true, true, true, true, true, true, true, true, true, true, true, true, true, true, false, false, false, false] (by kernel_rfl) (by kernel_rfl) (by kernel_rfl) (fun _ => by kernel_rfl) (by kernel_rfl) ?_
                        refine WA.take 14 59 (.bool (decide ((now - a) ≤ 20000))) #[true, true, true, true, true, true, true, true, true, true, true, true, true, true, true, false, false, false] (by kernel_rfl) (by kernel_rfl) (by kernel_rfl) (fun _ => by kernel_rfl) (by kernel_rfl) ?_
                        refine WA.weaken (env' := [(2, .int .i64 x), (3, .slice la len cap), (4, .pointer (some ⟨b1, 0, none⟩)), (8, .pointer (some ⟨b2, 0, none⟩)), (10, .int .i64 (now - a)), (45, .agg #[.int .i64 q, .int .i64 a, .int .i64 e, .bool o, .bool f]), (46, .int .i64 x), (47, .pointer (some ⟨b1, 0, none⟩)), (48, .int .i64 q), (49, .slice la len cap), (50, .int .i64 (ansF q l)), (51, .bool true), (52, .bool true), (53, .int .i64 (now - a)), (54, .bool true), (55, .bool true), (56, .bool true), (57, .int .i64 (now - a)), (58, .bool (decide ((now - a) ≤ 20000))), (59, .bool (decide ((now - a) ≤ 20000)))]) (by kernel_rfl) ?_
                        exact W3 w16 S16
                    have W6 : ∀ (w17 : World), Sep w [box b2 [.int .i64 0, .int .i64 0, .int .i64 0, .bool false, .bool false] 31, box b1 [.int .i64 q, .int .i64 a, .int .i64 e, .bool o, .bool f] 31] w17 → WA Try.prog 21 61 R K21_21 14 #[true, true, true, false, true, false, false, false, false, false, false, false, false, false, false, false, false, false] [(2, .int .i64 x), (3, .slice la len cap), (4, .pointer (some ⟨b1, 0, none⟩)), (8, .pointer (some ⟨b2, 0, none⟩)), (10, .int .i64 (now - a)), (45, .agg #[.int .i64 q, .int .i64 a, .int .i64 e, .bool o, .bool f]), (46, .int .i64 x), (47, .pointer (some ⟨b1, 0, none⟩)), (49, .slice la len cap)] w17 := by
                      intro w17 S17
                      refine WA.all [3] (by kernel_rfl) rfl ⟨?_, trivial⟩
                      · skip
                        refine WO.set #[true, true, true, true, true, false, false, false, false, false, false, false, false, false, false, false, false, false] (by kernel_rfl) ?_
                        refine WO.ok (OK.ldBox S17 1 48 3 0 (.int .i64 q) (by kernel_rfl) rfl (by kernel_rfl)) ?_
                        refine WA.weaken (env' := [(2, .int .i64 x), (3, .slice la len cap), (4, .pointer (some ⟨b1, 0, none⟩)), (8, .pointer (some ⟨b2, 0, none⟩)), (10, .int .i64 (now - a)), (45, .agg #[.int .i64 q, .int .i64 a, .int .i64 e, .bool o, .bool f]), (46, .int .i64 x), (47, .pointer (some ⟨b1, 0, none⟩)), (48, .int .i64 q), (49, .slice la len cap)]) (by kernel_rfl) ?_
                        exact W5 w17 S17
                    have W7 : ∀ (w18 : World), Sep w [box b2 [.int .i64 0, .int .i64 0, .int .i64 0, .bool false, .bool false] 31, box b1 [.int .i64 q, .int .i64 a, .int .i64 e, .bool o, .bool f] 31] w18 → WA Try.prog 21 61 R K21_21 14 #[false, true, true, true, true, false, false, false, false, false, false, false, false, false, false, false, false, false] [(2, .int .i64 x), (3, .slice la len cap), (4, .pointer (some ⟨b1, 0, none⟩)), (8, .pointer (some ⟨b2, 0, none⟩)), (10, .int .i64 (now - a)), (46, .int .i64 x), (47, .pointer (some ⟨b1, 0, none⟩)), (48, .int .i64 q), (49, .slice la len cap)] w18 := by
                      intro w18 S18
                      refine WA.all [0, 5] (by kernel_rfl) rfl ⟨?_, ?_, trivial⟩
                      · skip
                        refine WO.set #[true, true, true, true, true, false, false, false, false, false, false, false, false, false, false, false, false, false] (by kernel_rfl) ?_
                        refine WO.ok (OK.ldBox S18 1 45 31 0 (.agg #[.int .i64 q, .int .i64 a, .int .i64 e, .bool o, .bool f]) (by kernel_rfl) rfl (by kernel_rfl)) ?_
                        refine WA.weaken (env' := [(2, .int .i64 x), (3, .slice la len cap), (4, .pointer (some ⟨b1, 0, none⟩)), (8, .pointer (some ⟨b2, 0, none⟩)), (10, .int .i64 (now - a)), (45, .agg #[.int .i64 q, .int .i64 a, .int .i64 e, .bool o, .bool f]), (46, .int .i64 x), (47, .pointer (some ⟨b1, 0, none⟩)), (48, .int .i64 q), (49, .slice la len cap)]) (by kernel_rfl) ?_
                        exact W5 w18 S18
                      · skip
                        refine WO.set #[false, true, true, true, true, true, false, false, false, false, false, false, false, false, false, false, false, false] (by kernel_rfl) ?_
                        refine WO.callF 50 16 #[.int .i64 q, .slice la len cap] hb16 (by kernel_rfl) (ranswer_any q la len cap l _ (hI.sep S18) (by omega) (questionB_iff.2 (by omega)) fk2) ?_
                        rintro _ w19 ⟨rfl, T6⟩
                        have S19 : Sep w [box b2 [.int .i64 0, .int .i64 0, .int .i64 0, .bool false, .bool false] 31, box b1 [.int .i64 q, .int .i64 a, .int .i64 e, .bool o, .bool f] 31] w19 := S18.trans T6
                        clear T6 S18
                        refine WA.take 6 51 (.bool (x == (ansF q l))) #[false, true, true, true, true, true, true, false, false, false, false, false, false, false, false, false, false, false] (by kernel_rfl) (by kernel_rfl) (by kernel_rfl) (fun _ => by kernel_rfl) (by kernel_rfl) ?_
                        refine WA.head (.bool true) (congrArg Value.bool (beq_iff_eq.2 fk8)) ?_
                        refine WA.take 7 52 (.bool true) #[false, true, true, true, true, true, true, true, false, false, false, false, false, false, false, false, false, false] (by kernel_rfl) (by kernel_rfl) (by kernel_rfl) (fun _ => by kernel_rfl) (by kernel_rfl) ?_
                        refine WA.take 8 53 (.int .i64 (now - a)) #[false, true, true, true, true, true, true, true, true, false, false, false, false, false, false, false, false, false] (by kernel_rfl) (by kernel_rfl) (by kernel_rfl) (fun _ => by kernel_rfl) (by kernel_rfl) ?_
                        refine WA.take 9 54 (.bool (decide ((now - a) ≥ 10000))) #[false, true, true, true, true, true, true, true, true, true, false, false, false, false, false, false, false, false] (by kernel_rfl) (by kernel_rfl) (by kernel_rfl) (fun _ => by kernel_rfl) (by kernel_rfl) ?_
                        refine WA.head (.bool true) (congrArg Value.bool (decide_eq_true fk9)) ?_
                        refine WA.take 10 55 (.bool true) #[false, true, true, true, true, true, true, true, true, true, true, false, false, false, false, false, false, false] (by kernel_rfl) (by kernel_rfl) (by kernel_rfl) (fun _ => by kernel_rfl) (by kernel_rfl) ?_
                        refine WA.take 11 56 (.bool true) #[false, true, true, true, true, true, true, true, true, true, true, true, false, false, false, false, false, false] (by kernel_rfl) (by kernel_rfl) (by kernel_rfl) (fun _ => by kernel_rfl) (by kernel_rfl) ?_
                        refine WA.take 12 57 (.int .i64 (now - a)) #[false, true, true, true, true, true, true, true, true, true, true, true, true, false, false, false, false, false] (by kernel_rfl) (by kernel_rfl) (by kernel_rfl) (fun _ => by kernel_rfl) (by kernel_rfl) ?_
                        refine WA.take 13 58 (.bool (decide ((now - a) ≤ 20000))) #[false, true, true, true, true, true, true, true, true, true, true, true, true, true, false, false, false, false] (by kernel_rfl) (by kernel_rfl) (by kernel_rfl) (fun _ => by kernel_rfl) (by kernel_rfl) ?_
                        refine WA.take 14 59 (.bool (decide ((now - a) ≤ 20000))) #[false, true, true, true, true, true, true, true, true, true, true, true, true, true, true, false, false, false] (by kernel_rfl) (by kernel_rfl) (by kernel_rfl) (fun _ => by kernel_rfl) (by kernel_rfl) ?_
                        refine WA.weaken (env' := [(2, .int .i64 x), (3, .slice la len cap), (4, .pointer (some ⟨b1, 0, none⟩)), (8, .pointer (some ⟨b2, 0, none⟩)), (10, .int .i64 (now - a)), (46, .int .i64 x), (47, .pointer (some ⟨b1, 0, none⟩)), (48, .int .i64 q), (49, .slice la len cap), (50, .int .i64 (ansF q l)), (51, .bool true), (52, .bool true), (53, .int .i64 (now - a)), (54, .bool true), (55, .bool true), (56, .bool true), (57, .int .i64 (now - a)), (58, .bool (decide ((now - a) ≤ 20000))), (59, .bool (decide ((now - a) ≤ 20000)))]) (by kernel_rfl) ?_
                        exact W4 w19 S19
                    have W8 : ∀ (w20 : World), Sep w [box b2 [.int .i64 0, .int .i64 0, .int .i64 0, .bool false, .bool false] 31, box b1 [.int .i64 q, .int .i64 a, .int .i64 e, .bool o, .bool f] 31] w20 → WA Try.prog 21 61 R K21_21 15 #[false, true, true, false, true, false, false, false, false, false, false, false, false, false, false, false, false, false] [(2, .int .i64 x), (3, .slice la len cap), (4, .pointer (some ⟨b1, 0, none⟩)), (8, .pointer (some ⟨b2, 0, none⟩)), (10, .int .i64 (now - a)), (46, .int .i64 x), (47, .pointer (some ⟨b1, 0, none⟩)), (49, .slice la len cap)] w20 := by
                      intro w20 S20
                      refine WA.all [0, 3] (by kernel_rfl) rfl ⟨?_, ?_, trivial⟩
                      · skip
                        refine WO.set #[true, true, true, false, true, false, false, false, false, false, false, false, false, false, false, false, false, false] (by kernel_rfl) ?_
                        refine WO.ok (OK.ldBox S20 1 45 31 0 (.agg #[.int .i64 q, .int .i64 a, .int .i64 e, .bool o, .bool f]) (by kernel_rfl) rfl (by kernel_rfl)) ?_
                        refine WA.weaken (env' := [(2, .int .i64 x), (3, .slice la len cap), (4, .pointer (some ⟨b1, 0, none⟩)), (8, .pointer (some ⟨b2, 0, none⟩)), (10, .int .i64 (now - a)), (45, .agg #[.int .i64 q, .int .i64 a, .int .i64 e, .bool o, .bool f]), (46, .int .i64 x), (47, .pointer (some ⟨b1, 0, none⟩)), (49, .slice la len cap)]) (by kernel_rfl) ?_
                        exact W6 w20 S20
                      · skip
                        refine WO.set #[false, true, true, true, true, false, false, false, false, false, false, false, false, false, false, false, false, false] (by kernel_rfl) ?_
                        refine WO.ok (OK.ldBox S20 1 48 3 0 (.int .i64 q) (by kernel_rfl) rfl (by kernel_rfl)) ?_
                        refine WA.weaken (env' := [(2, .int .i64 x), (3, .slice la len cap), (4, .pointer (some ⟨b1, 0, none⟩)), (8, .pointer (some ⟨b2, 0, none⟩)), (10, .int .i64 (now - a)), (46, .int .i64 x), (47, .pointer (some ⟨b1, 0, none⟩)), (48, .int .i64 q), (49, .slice la len cap)]) (by kernel_rfl) ?_
                        exact W7 w20 S20
                    refine J.drawAny S5 18 #[false, false, false, false, false, false, false, false, false, false, false, false, false, false, false, false, false, false] Try.mixed (by kernel_rfl) (by kernel_rfl) (by kernel_rfl) ?_
                    intro w21 S21
                    refine WA.take 1 46 (.int .i64 x) #[false, true, false, false, false, false, false, false, false, false, false, false, false, false, false, false, false, false] (by kernel_rfl) (by kernel_rfl) (by kernel_rfl) (fun _ => by kernel_rfl) (by kernel_rfl) ?_
                    refine WA.take 2 47 (.pointer (some ⟨b1, 0, none⟩)) #[false, true, true, false, false, false, false, false, false, false, false, false, false, false, false, false, false, false] (by kernel_rfl) (by kernel_rfl) (by kernel_rfl) (fun _ => by kernel_rfl) (by kernel_rfl) ?_
                    refine WA.take 4 49 (.slice la len cap) #[false, true, true, false, true, false, false, false, false, false, false, false, false, false, false, false, false, false] (by kernel_rfl) (by kernel_rfl) (by kernel_rfl) (fun _ => by kernel_rfl) (by kernel_rfl) ?_
                    refine WA.weaken (env' := [(2, .int .i64 x), (3, .slice la len cap), (4, .pointer (some ⟨b1, 0, none⟩)), (8, .pointer (some ⟨b2, 0, none⟩)), (10, .int .i64 (now - a)), (46, .int .i64 x), (47, .pointer (some ⟨b1, 0, none⟩)), (49, .slice la len cap)]) (by kernel_rfl) ?_
                    exact W8 w21 S21
                  · skip
                    have W9 : ∀ (w22 : World), Sep w [box b2 [.int .i64 q, .int .i64 0, .int .i64 (endE e false), .bool false, .bool ((endE e false) == 7)] 31, box b1 [.int .i64 q, .int .i64 a, .int .i64 e, .bool o, .bool f] 31] w22 → WA Try.prog 21 61 R K21_21 0 #[true, true, true, true, true, true, true, true, true, true, true, true, true, true, true, true, true, true] [(2, .int .i64 x), (3, .slice la len cap), (4, .pointer (some ⟨b1, 0, none⟩)), (8, .pointer (some ⟨b2, 0, none⟩)), (9, .int .i64 0), (10, .int .i64 (now - a)), (45, .agg #[.int .i64 q, .int .i64 a, .int .i64 e, .bool o, .bool f]), (46, .int .i64 x), (47, .pointer (some ⟨b1, 0, none⟩)), (48, .int .i64 q), (49, .slice la len cap), (50, .int .i64 (ansF q l)), (51, .bool true), (52, .bool true), (53, .int .i64 (now - a)), (54, .bool false), (55, .bool false), (56, .bool false), (57, undef), (58, undef), (59, .bool false), (60, .agg #[.int .i64 q, .int .i64 0, .int .i64 (endE e false), .bool false, .bool ((endE e false) == 7)])] w22 := by
                      intro w22 S22
                      refine WA.done (by kernel_rfl) ?_
                      refine J.run 0 (rRest K21_21) [(8, .pointer (some ⟨b2, 0, none⟩)), (9, .int .i64 0)] w22 (by kernel_rfl) ?_
                      refine J.ret Try.f21 [.agg #[.int .i64 q, .int .i64 0, .int .i64 (endE e false), .bool false, .bool ((endE e false) == 7)], .int .i64 0] Try.func21 ⟨⟨⟨b2, 0, none⟩, by kernel_rfl, ldV_run (S22.nth 0 rfl) (by kernel_rfl)⟩, by kernel_rfl, trivial⟩ ?_
                      refine hR _ _ ?_
                      have hw : wordB x = true := wordB_iff.2 (by omega)
                      exact ⟨by (try simp only [replyV, replyR, zeroQ, hw, tup_one, tup_two, tup_three, fk1, fk2, fk3, fk7, (decide_eq_false fk7), (beq_iff_eq.2 fk8), (beq_iff_eq.2 (Eq.symm fk8)), (Eq.symm fk8), fk9, (decide_eq_false fk9)]) <;> simp [replyV, replyR, zeroQ, hw, tup_one, tup_two, tup_three, fk1, fk2, fk3, fk7, (decide_eq_false fk7), (beq_iff_eq.2 fk8), (beq_iff_eq.2 (Eq.symm fk8)), (Eq.symm fk8), fk9, (decide_eq_false fk9), fk6], S22.nil⟩
                    have W10 : ∀ (w23 : World), Sep w [box b2 [.int .i64 0, .int .i64 0, .int .i64 0, .bool false, .bool false] 31, box b1 [.int .i64 q, .int .i64 a, .int .i64 e, .bool o, .bool f] 31] w23 → WA Try.prog 21 61 R K21_21 2 #[true, true, true, true, true, true, true, true, true, true, true, true, true, true, true, true, false, false] [(2, .int .i64 x), (3, .slice la len cap), (4, .pointer (some ⟨b1, 0, none⟩)), (8, .pointer (some ⟨b2, 0, none⟩)), (10, .int .i64 (now - a)), (45, .agg #[.int .i64 q, .int .i64 a, .int .i64 e, .bool o, .bool f]), (46, .int .i64 x), (47, .pointer (some ⟨b1, 0, none⟩)), (48, .int .i64 q), (49, .slice la len cap), (50, .int .i64 (ansF q l)), (51, .bool true), (52, .bool true), (53, .int .i64 (now - a)), (54, .bool false), (55, .bool false), (56, .bool false), (57, undef), (58, undef), (59, .bool false), (60, .agg #[.int .i64 q, .int .i64 0, .int .i64 (endE e false), .bool false, .bool ((endE e false) == 7)])] w23 := by
                      intro w23 S23
                      refine WA.all [16] (by kernel_rfl) rfl ⟨?_, trivial⟩
                      · skip
                        refine WO.set #[true, true, true, true, true, true, true, true, true, true, true, true, true, true, true, true, true, false] (by kernel_rfl) ?_
                        refine WO.stBox S23 0 31 0 (.agg #[.int .i64 q, .int .i64 0, .int .i64 (endE e false), .bool false, .bool ((endE e false) == 7)]) [.int .i64 q, .int .i64 0, .int .i64 (endE e false), .bool false, .bool ((endE e false) == 7)] [box b2 [.int .i64 q, .int .i64 0, .int .i64 (endE e false), .bool false, .bool ((endE e false) == 7)] 31, box b1 [.int .i64 q, .int .i64 a, .int .i64 e, .bool o, .bool f] 31] (by kernel_rfl) rfl (by kernel_rfl) (by kernel_rfl) rfl ?_
                        intro w24 S24
                        refine WA.take 17 9 (.int .i64 0) #[true, true, true, true, true, true, true, true, true, true, true, true, true, true, true, true, true, true] (by kernel_rfl) (by kernel_rfl) (by kernel_rfl) (fun _ => by kernel_rfl) (by kernel_rfl) ?_
                        refine WA.weaken (env' := [(2, .int .i64 x), (3, .slice la len cap), (4, .pointer (some ⟨b1, 0, none⟩)), (8, .pointer (some ⟨b2, 0, none⟩)), (9, .int .i64 0), (10, .int .i64 (now - a)), (45, .agg #[.int .i64 q, .int .i64 a, .int .i64 e, .bool o, .bool f]), (46, .int .i64 x), (47, .pointer (some ⟨b1, 0, none⟩)), (48, .int .i64 q), (49, .slice la len cap), (50, .int .i64 (ansF q l)), (51, .bool true), (52, .bool true), (53, .int .i64 (now - a)), (54, .bool false), (55, .bool false), (56, .bool false), (57, undef), (58, undef), (59, .bool false), (60, .agg #[.int .i64 q, .int .i64 0, .int .i64 (endE e false), .bool false, .bool ((endE e false) == 7)])]) (by kernel_rfl) ?_
                        exact W9 w24 S24
                    have W11 : ∀ (w25 : World), Sep w [box b2 [.int .i64 0, .int .i64 0, .int .i64 0, .bool false, .bool false] 31, box b1 [.int .i64 q, .int .i64 a, .int .i64 e, .bool o, .bool f] 31] w25 → WA Try.prog 21 61 R K21_21 3 #[true, true, true, true, true, true, true, true, true, true, true, true, true, true, true, false, false, false] [(2, .int .i64 x), (3, .slice la len cap), (4, .pointer (some ⟨b1, 0, none⟩)), (8, .pointer (some ⟨b2, 0, none⟩)), (10, .int .i64 (now - a)), (45, .agg #[.int .i64 q, .int .i64 a, .int .i64 e, .bool o, .bool f]), (46, .int .i64 x), (47, .pointer (some ⟨b1, 0, none⟩)), (48, .int .i64 q), (49, .slice la len cap), (50, .int .i64 (ansF q l)), (51, .bool true), (52, .bool true), (53, .int .i64 (now - a)), (54, .bool false), (55, .bool false), (56, .bool false), (57, undef), (58, undef), (59, .bool false)] w25 := by
                      intro w25 S25
                      refine WA.all [15] (by kernel_rfl) rfl ⟨?_, trivial⟩
                      · skip
                        refine WO.set #[true, true, true, true, true, true, true, true, true, true, true, true, true, true, true, true, false, false] (by kernel_rfl) ?_
                        refine WO.callF 60 31 #[.agg #[.int .i64 q, .int .i64 a, .int .i64 e, .bool o, .bool f], .bool false] hb31 (by kernel_rfl) (rend_any q a e o f false _ (by omega)) ?_
                        rintro _ w26 ⟨rfl, T7⟩
                        have S26 : Sep w [box b2 [.int .i64 0, .int .i64 0, .int .i64 0, .bool false, .bool false] 31, box b1 [.int .i64 q, .int .i64 a, .int .i64 e, .bool o, .bool f] 31] w26 := S25.trans T7
                        clear T7 S25
                        refine WA.weaken (env' := [(2, .int .i64 x), (3, .slice la len cap), (4, .pointer (some ⟨b1, 0, none⟩)), (8, .pointer (some ⟨b2, 0, none⟩)), (10, .int .i64 (now - a)), (45, .agg #[.int .i64 q, .int .i64 a, .int .i64 e, .bool o, .bool f]), (46, .int .i64 x), (47, .pointer (some ⟨b1, 0, none⟩)), (48, .int .i64 q), (49, .slice la len cap), (50, .int .i64 (ansF q l)), (51, .bool true), (52, .bool true), (53, .int .i64 (now - a)), (54, .bool false), (55, .bool false), (56, .bool false), (57, undef), (58, undef), (59, .bool false), (60, .agg #[.int .i64 q, .int .i64 0, .int .i64 (endE e false), .bool false, .bool ((endE e false) == 7)])]) (by kernel_rfl) ?_
                        exact W10 w26 S26
                    have W12 : ∀ (w27 : World), Sep w [box b2 [.int .i64 0, .int .i64 0, .int .i64 0, .bool false, .bool false] 31, box b1 [.int .i64 q, .int .i64 a, .int .i64 e, .bool o, .bool f] 31] w27 → WA Try.prog 21 61 R K21_21 4 #[false, true, true, true, true, true, true, true, true, true, true, true, true, true, true, false, false, false] [(2, .int .i64 x), (3, .slice la len cap), (4, .pointer (some ⟨b1, 0, none⟩)), (8, .pointer (some ⟨b2, 0, none⟩)), (10, .int .i64 (now - a)), (46, .int .i64 x), (47, .pointer (some ⟨b1, 0, none⟩)), (48, .int .i64 q), (49, .slice la len cap), (50, .int .i64 (ansF q l)), (51, .bool true), (52, .bool true), (53, .int .i64 (now - a)), (54, .bool false), (55, .bool false), (56, .bool false), (57, undef), (58, undef), (59, .bool false)] w27 := by
                      intro w27 S27
                      refine WA.all [0] (by kernel_rfl) rfl ⟨?_, trivial⟩
                      · skip
                        refine WO.set #[true, true, true, true, true, true, true, true, true, true, true, true, true, true, true, false, false, false] (by kernel_rfl) ?_
                        refine WO.ok (OK.ldBox S27 1 45 31 0 (.agg #[.int .i64 q, .int .i64 a, .int .i64 e, .bool o, .bool f]) (by kernel_rfl) rfl (by kernel_rfl)) ?_
                        refine WA.weaken (env' := [(2, .int .i64 x), (3, .slice la len cap), (4, .pointer (some ⟨b1, 0, none⟩)), (8, .pointer (some ⟨b2, 0, none⟩)), (10, .int .i64 (now - a)), (45, .agg #[.int .i64 q, .int .i64 a, .int .i64 e, .bool o, .bool f]), (46, .int .i64 x), (47, .pointer (some ⟨b1, 0, none⟩)), (48, .int .i64 q), (49, .slice la len cap), (50, .int .i64 (ansF q l)), (51, .bool true), (52, .bool true), (53, .int .i64 (now - a)), (54, .bool false), (55, .bool false), (56, .bool false), (57, undef), (58, undef), (59, .bool false)]) (by kernel_rfl) ?_
                        exact W11 w27 S27
                    have W13 : ∀ (w28 : World), Sep w [box b2 [.int .i64 0, .int .i64 0, .int .i64 0, .bool false, .bool false] 31, box b1 [.int .i64 q, .int .i64 a, .int .i64 e, .bool o, .bool f] 31] w28 → WA Try.prog 21 61 R K21_21 13 #[true, true, true, true, true, false, false, false, false, false, false, false, false, false, false, false, false, false] [(2, .int .i64 x), (3, .slice la len cap), (4, .pointer (some ⟨b1, 0, none⟩)), (8, .pointer (some ⟨b2, 0, none⟩)), (10, .int .i64 (now - a)), (45, .agg #[.int .i64 q, .int .i64 a, .int .i64 e, .bool o, .bool f]), (46, .int .i64 x), (47, .pointer (some ⟨b1, 0, none⟩)), (48, .int .i64 q), (49, .slice la len cap)] w28 := by
                      intro w28 S28
                      refine WA.all [5] (by kernel_rfl) rfl ⟨?_, trivial⟩
                      · skip
                        refine WO.set #[true, true, true, true, true, true, false, false, false, false, false, false, false, false, false, false, false, false] (by kernel_rfl) ?_
                        refine WO.callF 50 16 #[.int .i64 q, .slice la len cap] hb16 (by kernel_rfl) (ranswer_any q la len cap l _ (hI.sep S28) (by omega) (questionB_iff.2 (by omega)) fk2) ?_
                        rintro _ w29 ⟨rfl, T8⟩
                        have S29 : Sep w [box b2 [.int .i64 0, .int .i64 0, .int .i64 0, .bool false, .bool false] 31, box b1 [.int .i64 q, .int .i64 a, .int .i64 e, .bool o, .bool f] 31] w29 := S28.trans T8
                        clear T8 S28
                        refine WA.take 6 51 (.bool (x == (ansF q l))) #[true, true, true, true, true, true, true, false, false, false, false, false, false, false, false, false, false, false] (by kernel_rfl) (by kernel_rfl) (by kernel_rfl) (fun _ => by kernel_rfl) (by kernel_rfl) ?_
                        refine WA.head (.bool true) (congrArg Value.bool (beq_iff_eq.2 fk8)) ?_
                        refine WA.take 7 52 (.bool true) #[true, true, true, true, true, true, true, true, false, false, false, false, false, false, false, false, false, false] (by kernel_rfl) (by kernel_rfl) (by kernel_rfl) (fun _ => by kernel_rfl) (by kernel_rfl) ?_
                        refine WA.take 8 53 (.int .i64 (now - a)) #[true, true, true, true, true, true, true, true, true, false, false, false, false, false, false, false, false, false] (by kernel_rfl) (by kernel_rfl) (by kernel_rfl) (fun _ => by kernel_rfl) (by kernel_rfl) ?_
                        refine WA.take 9 54 (.bool (decide ((now - a) ≥ 10000))) #[true, true, true, true, true, true, true, true, true, true, false, false, false, false, false, false, false, false] (by kernel_rfl) (by kernel_rfl) (by kernel_rfl) (fun _ => by kernel_rfl) (by kernel_rfl) ?_
                        refine WA.head (.bool false) (congrArg Value.bool (decide_eq_false fk9)) ?_
                        refine WA.take 10 55 (.bool false) #[true, true, true, true, true, true, true, true, true, true, true, false, false, false, false, false, false, false] (by kernel_rfl) (by kernel_rfl) (by kernel_rfl) (fun _ => by kernel_rfl) (by kernel_rfl) ?_
                        refine WA.take 11 56 (.bool false) #[true, true, true, true, true, true, true, true, true, true, true, true, false, false, false, false, false, false] (by kernel_rfl) (by kernel_rfl) (by kernel_rfl) (fun _ => by kernel_rfl) (by kernel_rfl) ?_
                        refine WA.takePass 12 (some 57) #[true, true, true, true, true, true, true, true, true, true, true, true, true, false, false, false, false, false] (by kernel_rfl) (by kernel_rfl) (by kernel_rfl) (by kernel_rfl) (by kernel_rfl) ?_
                        refine WA.takePass 13 (some 58) #[true, true, true, true, true, true, true, true, true, true, true, true, true, true, false, false, false, false] (by kernel_rfl) (by kernel_rfl) (by kernel_rfl) (by kernel_rfl) (by kernel_rfl) ?_
                        refine WA.take 14 59 (.bool false) #[true, true, true, true, true, true, true, true, true, true, true, true, true, true, true, false, false, false] (by kernel_rfl) (by kernel_rfl) (by kernel_rfl) (fun _ => by kernel_rfl) (by kernel_rfl) ?_
                        refine WA.weaken (env' := [(2, .int .i64 x), (3, .slice la len cap), (4, .pointer (some ⟨b1, 0, none⟩)), (8, .pointer (some ⟨b2, 0, none⟩)), (10, .int .i64 (now - a)), (45, .agg #[.int .i64 q, .int .i64 a, .int .i64 e, .bool o, .bool f]), (46, .int .i64 x), (47, .pointer (some ⟨b1, 0, none⟩)), (48, .int .i64 q), (49, .slice la len cap), (50, .int .i64 (ansF q l)), (51, .bool true), (52, .bool true), (53, .int .i64 (now - a)), (54, .bool false), (55, .bool false), (56, .bool false), (57, undef), (58, undef), (59, .bool false)]) (by kernel_rfl) ?_
                        exact W11 w29 S29
                    have W14 : ∀ (w30 : World), Sep w [box b2 [.int .i64 0, .int .i64 0, .int .i64 0, .bool false, .bool false] 31, box b1 [.int .i64 q, .int .i64 a, .int .i64 e, .bool o, .bool f] 31] w30 → WA Try.prog 21 61 R K21_21 14 #[true, true, true, false, true, false, false, false, false, false, false, false, false, false, false, false, false, false] [(2, .int .i64 x), (3, .slice la len cap), (4, .pointer (some ⟨b1, 0, none⟩)), (8, .pointer (some ⟨b2, 0, none⟩)), (10, .int .i64 (now - a)), (45, .agg #[.int .i64 q, .int .i64 a, .int .i64 e, .bool o, .bool f]), (46, .int .i64 x), (47, .pointer (some ⟨b1, 0, none⟩)), (49, .slice la len cap)] w30 := by
                      intro w30 S30
                      refine WA.all [3] (by kernel_rfl) rfl ⟨?_, trivial⟩
                      · skip
                        refine WO.set #[true, true, true, true, true, false, false, false, false, false, false, false, false, false, false, false, false, false] (by kernel_rfl) ?_
                        refine WO.ok (OK.ldBox S30 1 48 3 0 (.int .i64 q) (by kernel_rfl) rfl (by kernel_rfl)) ?_
                        refine WA.weaken (env' := [(2, .int .i64 x), (3, .slice la len cap), (4, .pointer (some ⟨b1, 0, none⟩)), (8, .pointer (some ⟨b2, 0, none⟩)), (10, .int .i64 (now - a)), (45, .agg #[.int .i64 q, .int .i64 a, .int .i64 e, .bool o, .bool f]), (46, .int .i64 x), (47, .pointer (some ⟨b1, 0, none⟩)), (48, .int .i64 q), (49, .slice la len cap)]) (by kernel_rfl) ?_
                        exact W13 w30 S30
                    have W15 : ∀ (w31 : World), Sep w [box b2 [.int .i64 0, .int .i64 0, .int .i64 0, .bool false, .bool false] 31, box b1 [.int .i64 q, .int .i64 a, .int .i64 e, .bool o, .bool f] 31] w31 → WA Try.prog 21 61 R K21_21 14 #[false, true, true, true, true, false, false, false, false, false, false, false, false, false, false, false, false, false] [(2, .int .i64 x), (3, .slice la len cap), (4, .pointer (some ⟨b1, 0, none⟩)), (8, .pointer (some ⟨b2, 0, none⟩)), (10, .int .i64 (now - a)), (46, .int .i64 x), (47, .pointer (some ⟨b1, 0, none⟩)), (48, .int .i64 q), (49, .slice la len cap)] w31 := by
                      intro w31 S31
                      refine WA.all [0, 5] (by kernel_rfl) rfl ⟨?_, ?_, trivial⟩
                      · skip
                        refine WO.set #[true, true, true, true, true, false, false, false, false, false, false, false, false, false, false, false, false, false] (by kernel_rfl) ?_
                        refine WO.ok (OK.ldBox S31 1 45 31 0 (.agg #[.int .i64 q, .int .i64 a, .int .i64 e, .bool o, .bool f]) (by kernel_rfl) rfl (by kernel_rfl)) ?_
                        refine WA.weaken (env' := [(2, .int .i64 x), (3, .slice la len cap), (4, .pointer (some ⟨b1, 0, none⟩)), (8, .pointer (some ⟨b2, 0, none⟩)), (10, .int .i64 (now - a)), (45, .agg #[.int .i64 q, .int .i64 a, .int .i64 e, .bool o, .bool f]), (46, .int .i64 x), (47, .pointer (some ⟨b1, 0, none⟩)), (48, .int .i64 q), (49, .slice la len cap)]) (by kernel_rfl) ?_
                        exact W13 w31 S31
                      · skip
                        refine WO.set #[false, true, true, true, true, true, false, false, false, false, false, false, false, false, false, false, false, false] (by kernel_rfl) ?_
                        refine WO.callF 50 16 #[.int .i64 q, .slice la len cap] hb16 (by kernel_rfl) (ranswer_any q la len cap l _ (hI.sep S31) (by omega) (questionB_iff.2 (by omega)) fk2) ?_
                        rintro _ w32 ⟨rfl, T9⟩
                        have S32 : Sep w [box b2 [.int .i64 0, .int .i64 0, .int .i64 0, .bool false, .bool false] 31, box b1 [.int .i64 q, .int .i64 a, .int .i64 e, .bool o, .bool f] 31] w32 := S31.trans T9
                        clear T9 S31
                        refine WA.take 6 51 (.bool (x == (ansF q l))) #[false, true, true, true, true, true, true, false, false, false, false, false, false, false, false, false, false, false] (by kernel_rfl) (by kernel_rfl) (by kernel_rfl) (fun _ => by kernel_rfl) (by kernel_rfl) ?_
                        refine WA.head (.bool true) (congrArg Value.bool (beq_iff_eq.2 fk8)) ?_
                        refine WA.take 7 52 (.bool true) #[false, true, true, true, true, true, true, true, false, false, false, false, false, false, false, false, false, false] (by kernel_rfl) (by kernel_rfl) (by kernel_rfl) (fun _ => by kernel_rfl) (by kernel_rfl) ?_
                        refine WA.take 8 53 (.int .i64 (now - a)) #[false, true, true, true, true, true, true, true, true, false, false, false, false, false, false, false, false, false] (by kernel_rfl) (by kernel_rfl) (by kernel_rfl) (fun _ => by kernel_rfl) (by kernel_rfl) ?_
                        refine WA.take 9 54 (.bool (decide ((now - a) ≥ 10000))) #[false, true, true, true, true, true, true, true, true, true, false, false, false, false, false, false, false, false] (by kernel_rfl) (by kernel_rfl) (by kernel_rfl) (fun _ => by kernel_rfl) (by kernel_rfl) ?_
                        refine WA.head (.bool false) (congrArg Value.bool (decide_eq_false fk9)) ?_
                        refine WA.take 10 55 (.bool false) #[false, true, true, true, true, true, true, true, true, true, true, false, false, false, false, false, false, false] (by kernel_rfl) (by kernel_rfl) (by kernel_rfl) (fun _ => by kernel_rfl) (by kernel_rfl) ?_
                        refine WA.take 11 56 (.bool false) #[false, true, true, true, true, true, true, true, true, true, true, true, false, false, false, false, false, false] (by kernel_rfl) (by kernel_rfl) (by kernel_rfl) (fun _ => by kernel_rfl) (by kernel_rfl) ?_
                        refine WA.takePass 12 (some 57) #[false, true, true, true, true, true, true, true, true, true, true, true, true, false, false, false, false, false] (by kernel_rfl) (by kernel_rfl) (by kernel_rfl) (by kernel_rfl) (by kernel_rfl) ?_
                        refine WA.takePass 13 (some 58) #[false, true, true, true, true, true, true, true, true, true, true, true, true, true, false, false, false, false] (by kernel_rfl) (by kernel_rfl) (by kernel_rfl) (by kernel_rfl) (by kernel_rfl) ?_
                        refine WA.take 14 59 (.bool false) #[false, true, true, true, true, true, true, true, true, true, true, true, true, true, true, false, false, false] (by kernel_rfl) (by kernel_rfl) (by kernel_rfl) (fun _ => by kernel_rfl) (by kernel_rfl) ?_
                        refine WA.weaken (env' := [(2, .int .i64 x), (3, .slice la len cap), (4, .pointer (some ⟨b1, 0, none⟩)), (8, .pointer (some ⟨b2, 0, none⟩)), (10, .int .i64 (now - a)), (46, .int .i64 x), (47, .pointer (some ⟨b1, 0, none⟩)), (48, .int .i64 q), (49, .slice la len cap), (50, .int .i64 (ansF q l)), (51, .bool true), (52, .bool true), (53, .int .i64 (now - a)), (54, .bool false), (55, .bool false), (56, .bool false), (57, undef), (58, undef), (59, .bool false)]) (by kernel_rfl) ?_
                        exact W12 w32 S32
                    have W16 : ∀ (w33 : World), Sep w [box b2 [.int .i64 0, .int .i64 0, .int .i64 0, .bool false, .bool false] 31, box b1 [.int .i64 q, .int .i64 a, .int .i64 e, .bool o, .bool f] 31] w33 → WA Try.prog 21 61 R K21_21 15 #[false, true, true, false, true, false, false, false, false, false, false, false, false, false, false, false, false, false] [(2, .int .i64 x), (3, .slice la len cap), (4, .pointer (some ⟨b1, 0, none⟩)), (8, .pointer (some ⟨b2, 0, none⟩)), (10, .int .i64 (now - a)), (46, .int .i64 x), (47, .pointer (some ⟨b1, 0, none⟩)), (49, .slice la len cap)] w33 := by
                      intro w33 S33
                      refine WA.all [0, 3] (by kernel_rfl) rfl ⟨?_, ?_, trivial⟩
                      · skip
                        refine WO.set #[true, true, true, false, true, false, false, false, false, false, false, false, false, false, false, false, false, false] (by kernel_rfl) ?_
                        refine WO.ok (OK.ldBox S33 1 45 31 0 (.agg #[.int .i64 q, .int .i64 a, .int .i64 e, .bool o, .bool f]) (by kernel_rfl) rfl (by kernel_rfl)) ?_
                        refine WA.weaken (env' := [(2, .int .i64 x), (3, .slice la len cap), (4, .pointer (some ⟨b1, 0, none⟩)), (8, .pointer (some ⟨b2, 0, none⟩)), (10, .int .i64 (now - a)), (45, .agg #[.int .i64 q, .int .i64 a, .int .i64 e, .bool o, .bool f]), (46, .int .i64 x), (47, .pointer (some ⟨b1, 0, none⟩)), (49, .slice la len cap)]) (by kernel_rfl) ?_
                        exact W14 w33 S33
                      · skip
                        refine WO.set #[false, true, true, true, true, false, false, false, false, false, false, false, false, false, false, false, false, false] (by kernel_rfl) ?_
                        refine WO.ok (OK.ldBox S33 1 48 3 0 (.int .i64 q) (by kernel_rfl) rfl (by kernel_rfl)) ?_
                        refine WA.weaken (env' := [(2, .int .i64 x), (3, .slice la len cap), (4, .pointer (some ⟨b1, 0, none⟩)), (8, .pointer (some ⟨b2, 0, none⟩)), (10, .int .i64 (now - a)), (46, .int .i64 x), (47, .pointer (some ⟨b1, 0, none⟩)), (48, .int .i64 q), (49, .slice la len cap)]) (by kernel_rfl) ?_
                        exact W15 w33 S33
                    refine J.drawAny S5 18 #[false, false, false, false, false, false, false, false, false, false, false, false, false, false, false, false, false, false] Try.mixed (by kernel_rfl) (by kernel_rfl) (by kernel_rfl) ?_
                    intro w34 S34
                    refine WA.take 1 46 (.int .i64 x) #[false, true, false, false, false, false, false, false, false, false, false, false, false, false, false, false, false, false] (by kernel_rfl) (by kernel_rfl) (by kernel_rfl) (fun _ => by kernel_rfl) (by kernel_rfl) ?_
                    refine WA.take 2 47 (.pointer (some ⟨b1, 0, none⟩)) #[false, true, true, false, false, false, false, false, false, false, false, false, false, false, false, false, false, false] (by kernel_rfl) (by kernel_rfl) (by kernel_rfl) (fun _ => by kernel_rfl) (by kernel_rfl) ?_
                    refine WA.take 4 49 (.slice la len cap) #[false, true, true, false, true, false, false, false, false, false, false, false, false, false, false, false, false, false] (by kernel_rfl) (by kernel_rfl) (by kernel_rfl) (fun _ => by kernel_rfl) (by kernel_rfl) ?_
                    refine WA.weaken (env' := [(2, .int .i64 x), (3, .slice la len cap), (4, .pointer (some ⟨b1, 0, none⟩)), (8, .pointer (some ⟨b2, 0, none⟩)), (10, .int .i64 (now - a)), (46, .int .i64 x), (47, .pointer (some ⟨b1, 0, none⟩)), (49, .slice la len cap)]) (by kernel_rfl) ?_
                    exact W16 w34 S34
                · skip
                  have W17 : ∀ (w35 : World), Sep w [box b2 [.int .i64 q, .int .i64 0, .int .i64 (endE e false), .bool false, .bool ((endE e false) == 7)] 31, box b1 [.int .i64 q, .int .i64 a, .int .i64 e, .bool o, .bool f] 31] w35 → WA Try.prog 21 61 R K21_21 0 #[true, true, true, true, true, true, true, true, true, true, true, true, true, true, true, true, true, true] [(2, .int .i64 x), (3, .slice la len cap), (4, .pointer (some ⟨b1, 0, none⟩)), (8, .pointer (some ⟨b2, 0, none⟩)), (9, .int .i64 0), (10, .int .i64 (now - a)), (45, .agg #[.int .i64 q, .int .i64 a, .int .i64 e, .bool o, .bool f]), (46, .int .i64 x), (47, .pointer (some ⟨b1, 0, none⟩)), (48, .int .i64 q), (49, .slice la len cap), (50, .int .i64 (ansF q l)), (51, .bool false), (52, .bool false), (53, undef), (54, undef), (55, .bool false), (56, .bool false), (57, undef), (58, undef), (59, .bool false), (60, .agg #[.int .i64 q, .int .i64 0, .int .i64 (endE e false), .bool false, .bool ((endE e false) == 7)])] w35 := by
                    intro w35 S35
                    refine WA.done (by kernel_rfl) ?_
                    refine J.run 0 (rRest K21_21) [(8, .pointer (some ⟨b2, 0, none⟩)), (9, .int .i64 0)] w35 (by kernel_rfl) ?_
                    refine J.ret Try.f21 [.agg #[.int .i64 q, .int .i64 0, .int .i64 (endE e false), .bool false, .bool ((endE e false) == 7)], .int .i64 0] Try.func21 ⟨⟨⟨b2, 0, none⟩, by kernel_rfl, ldV_run (S35.nth 0 rfl) (by kernel_rfl)⟩, by kernel_rfl, trivial⟩ ?_
                    refine hR _ _ ?_
                    have hw : wordB x = true := wordB_iff.2 (by omega)
                    exact ⟨by (try simp only [replyV, replyR, zeroQ, hw, tup_one, tup_two, tup_three, fk1, fk2, fk3, fk7, (decide_eq_false fk7), fk8, (beq_eq_false_iff_ne.2 fk8), (beq_eq_false_iff_ne.2 (Ne.symm fk8))]) <;> simp [replyV, replyR, zeroQ, hw, tup_one, tup_two, tup_three, fk1, fk2, fk3, fk7, (decide_eq_false fk7), fk8, (beq_eq_false_iff_ne.2 fk8), (beq_eq_false_iff_ne.2 (Ne.symm fk8)), fk6], S35.nil⟩
                  have W18 : ∀ (w36 : World), Sep w [box b2 [.int .i64 0, .int .i64 0, .int .i64 0, .bool false, .bool false] 31, box b1 [.int .i64 q, .int .i64 a, .int .i64 e, .bool o, .bool f] 31] w36 → WA Try.prog 21 61 R K21_21 2 #[true, true, true, true, true, true, true, true, true, true, true, true, true, true, true, true, false, false] [(2, .int .i64 x), (3, .slice la len cap), (4, .pointer (some ⟨b1, 0, none⟩)), (8, .pointer (some ⟨b2, 0, none⟩)), (10, .int .i64 (now - a)), (45, .agg #[.int .i64 q, .int .i64 a, .int .i64 e, .bool o, .bool f]), (46, .int .i64 x), (47, .pointer (some ⟨b1, 0, none⟩)), (48, .int .i64 q), (49, .slice la len cap), (50, .int .i64 (ansF q l)), (51, .bool false), (52, .bool false), (53, undef), (54, undef), (55, .bool false), (56, .bool false), (57, undef), (58, undef), (59, .bool false), (60, .agg #[.int .i64 q, .int .i64 0, .int .i64 (endE e false), .bool false, .bool ((endE e false) == 7)])] w36 := by
                    intro w36 S36
                    refine WA.all [16] (by kernel_rfl) rfl ⟨?_, trivial⟩
                    · skip
                      refine WO.set #[true, true, true, true, true, true, true, true, true, true, true, true, true, true, true, true, true, false] (by kernel_rfl) ?_
                      refine WO.stBox S36 0 31 0 (.agg #[.int .i64 q, .int .i64 0, .int .i64 (endE e false), .bool false, .bool ((endE e false) == 7)]) [.int .i64 q, .int .i64 0, .int .i64 (endE e false), .bool false, .bool ((endE e false) == 7)] [box b2 [.int .i64 q, .int .i64 0, .int .i64 (endE e false), .bool false, .bool ((endE e false) == 7)] 31, box b1 [.int .i64 q, .int .i64 a, .int .i64 e, .bool o, .bool f] 31] (by kernel_rfl) rfl (by kernel_rfl) (by kernel_rfl) rfl ?_
                      intro w37 S37
                      refine WA.take 17 9 (.int .i64 0) #[true, true, true, true, true, true, true, true, true, true, true, true, true, true, true, true, true, true] (by kernel_rfl) (by kernel_rfl) (by kernel_rfl) (fun _ => by kernel_rfl) (by kernel_rfl) ?_
                      refine WA.weaken (env' := [(2, .int .i64 x), (3, .slice la len cap), (4, .pointer (some ⟨b1, 0, none⟩)), (8, .pointer (some ⟨b2, 0, none⟩)), (9, .int .i64 0), (10, .int .i64 (now - a)), (45, .agg #[.int .i64 q, .int .i64 a, .int .i64 e, .bool o, .bool f]), (46, .int .i64 x), (47, .pointer (some ⟨b1, 0, none⟩)), (48, .int .i64 q), (49, .slice la len cap), (50, .int .i64 (ansF q l)), (51, .bool false), (52, .bool false), (53, undef), (54, undef), (55, .bool false), (56, .bool false), (57, undef), (58, undef), (59, .bool false), (60, .agg #[.int .i64 q, .int .i64 0, .int .i64 (endE e false), .bool false, .bool ((endE e false) == 7)])]) (by kernel_rfl) ?_
                      exact W17 w37 S37
                  have W19 : ∀ (w38 : World), Sep w [box b2 [.int .i64 0, .int .i64 0, .int .i64 0, .bool false, .bool false] 31, box b1 [.int .i64 q, .int .i64 a, .int .i64 e, .bool o, .bool f] 31] w38 → WA Try.prog 21 61 R K21_21 3 #[true, true, true, true, true, true, true, true, true, true, true, true, true, true, true, false, false, false] [(2, .int .i64 x), (3, .slice la len cap), (4, .pointer (some ⟨b1, 0, none⟩)), (8, .pointer (some ⟨b2, 0, none⟩)), (10, .int .i64 (now - a)), (45, .agg #[.int .i64 q, .int .i64 a, .int .i64 e, .bool o, .bool f]), (46, .int .i64 x), (47, .pointer (some ⟨b1, 0, none⟩)), (48, .int .i64 q), (49, .slice la len cap), (50, .int .i64 (ansF q l)), (51, .bool false), (52, .bool false), (53, undef), (54, undef), (55, .bool false), (56, .bool false), (57, undef), (58, undef), (59, .bool false)] w38 := by
                    intro w38 S38
                    refine WA.all [15] (by kernel_rfl) rfl ⟨?_, trivial⟩
                    · skip
                      refine WO.set #[true, true, true, true, true, true, true, true, true, true, true, true, true, true, true, true, false, false] (by kernel_rfl) ?_
                      refine WO.callF 60 31 #[.agg #[.int .i64 q, .int .i64 a, .int .i64 e, .bool o, .bool f], .bool false] hb31 (by kernel_rfl) (rend_any q a e o f false _ (by omega)) ?_
                      rintro _ w39 ⟨rfl, T10⟩
                      have S39 : Sep w [box b2 [.int .i64 0, .int .i64 0, .int .i64 0, .bool false, .bool false] 31, box b1 [.int .i64 q, .int .i64 a, .int .i64 e, .bool o, .bool f] 31] w39 := S38.trans T10
                      clear T10 S38
                      refine WA.weaken (env' := [(2, .int .i64 x), (3, .slice la len cap), (4, .pointer (some ⟨b1, 0, none⟩)), (8, .pointer (some ⟨b2, 0, none⟩)), (10, .int .i64 (now - a)), (45, .agg #[.int .i64 q, .int .i64 a, .int .i64 e, .bool o, .bool f]), (46, .int .i64 x), (47, .pointer (some ⟨b1, 0, none⟩)), (48, .int .i64 q), (49, .slice la len cap), (50, .int .i64 (ansF q l)), (51, .bool false), (52, .bool false), (53, undef), (54, undef), (55, .bool false), (56, .bool false), (57, undef), (58, undef), (59, .bool false), (60, .agg #[.int .i64 q, .int .i64 0, .int .i64 (endE e false), .bool false, .bool ((endE e false) == 7)])]) (by kernel_rfl) ?_
                      exact W18 w39 S39
                  have W20 : ∀ (w40 : World), Sep w [box b2 [.int .i64 0, .int .i64 0, .int .i64 0, .bool false, .bool false] 31, box b1 [.int .i64 q, .int .i64 a, .int .i64 e, .bool o, .bool f] 31] w40 → WA Try.prog 21 61 R K21_21 4 #[false, true, true, true, true, true, true, true, true, true, true, true, true, true, true, false, false, false] [(2, .int .i64 x), (3, .slice la len cap), (4, .pointer (some ⟨b1, 0, none⟩)), (8, .pointer (some ⟨b2, 0, none⟩)), (10, .int .i64 (now - a)), (46, .int .i64 x), (47, .pointer (some ⟨b1, 0, none⟩)), (48, .int .i64 q), (49, .slice la len cap), (50, .int .i64 (ansF q l)), (51, .bool false), (52, .bool false), (53, undef), (54, undef), (55, .bool false), (56, .bool false), (57, undef), (58, undef), (59, .bool false)] w40 := by
                    intro w40 S40
                    refine WA.all [0] (by kernel_rfl) rfl ⟨?_, trivial⟩
                    · skip
                      refine WO.set #[true, true, true, true, true, true, true, true, true, true, true, true, true, true, true, false, false, false] (by kernel_rfl) ?_
                      refine WO.ok (OK.ldBox S40 1 45 31 0 (.agg #[.int .i64 q, .int .i64 a, .int .i64 e, .bool o, .bool f]) (by kernel_rfl) rfl (by kernel_rfl)) ?_
                      refine WA.weaken (env' := [(2, .int .i64 x), (3, .slice la len cap), (4, .pointer (some ⟨b1, 0, none⟩)), (8, .pointer (some ⟨b2, 0, none⟩)), (10, .int .i64 (now - a)), (45, .agg #[.int .i64 q, .int .i64 a, .int .i64 e, .bool o, .bool f]), (46, .int .i64 x), (47, .pointer (some ⟨b1, 0, none⟩)), (48, .int .i64 q), (49, .slice la len cap), (50, .int .i64 (ansF q l)), (51, .bool false), (52, .bool false), (53, undef), (54, undef), (55, .bool false), (56, .bool false), (57, undef), (58, undef), (59, .bool false)]) (by kernel_rfl) ?_
                      exact W19 w40 S40
                  have W21 : ∀ (w41 : World), Sep w [box b2 [.int .i64 0, .int .i64 0, .int .i64 0, .bool false, .bool false] 31, box b1 [.int .i64 q, .int .i64 a, .int .i64 e, .bool o, .bool f] 31] w41 → WA Try.prog 21 61 R K21_21 13 #[true, true, true, true, true, false, false, false, false, false, false, false, false, false, false, false, false, false] [(2, .int .i64 x), (3, .slice la len cap), (4, .pointer (some ⟨b1, 0, none⟩)), (8, .pointer (some ⟨b2, 0, none⟩)), (10, .int .i64 (now - a)), (45, .agg #[.int .i64 q, .int .i64 a, .int .i64 e, .bool o, .bool f]), (46, .int .i64 x), (47, .pointer (some ⟨b1, 0, none⟩)), (48, .int .i64 q), (49, .slice la len cap)] w41 := by
                    intro w41 S41
                    refine WA.all [5] (by kernel_rfl) rfl ⟨?_, trivial⟩
                    · skip
                      refine WO.set #[true, true, true, true, true, true, false, false, false, false, false, false, false, false, false, false, false, false] (by kernel_rfl) ?_
                      refine WO.callF 50 16 #[.int .i64 q, .slice la len cap] hb16 (by kernel_rfl) (ranswer_any q la len cap l _ (hI.sep S41) (by omega) (questionB_iff.2 (by omega)) fk2) ?_
                      rintro _ w42 ⟨rfl, T11⟩
                      have S42 : Sep w [box b2 [.int .i64 0, .int .i64 0, .int .i64 0, .bool false, .bool false] 31, box b1 [.int .i64 q, .int .i64 a, .int .i64 e, .bool o, .bool f] 31] w42 := S41.trans T11
                      clear T11 S41
                      refine WA.take 6 51 (.bool (x == (ansF q l))) #[true, true, true, true, true, true, true, false, false, false, false, false, false, false, false, false, false, false] (by kernel_rfl) (by kernel_rfl) (by kernel_rfl) (fun _ => by kernel_rfl) (by kernel_rfl) ?_
                      refine WA.head (.bool false) (congrArg Value.bool (beq_eq_false_iff_ne.2 fk8)) ?_
                      refine WA.take 7 52 (.bool false) #[true, true, true, true, true, true, true, true, false, false, false, false, false, false, false, false, false, false] (by kernel_rfl) (by kernel_rfl) (by kernel_rfl) (fun _ => by kernel_rfl) (by kernel_rfl) ?_
                      refine WA.takePass 8 (some 53) #[true, true, true, true, true, true, true, true, true, false, false, false, false, false, false, false, false, false] (by kernel_rfl) (by kernel_rfl) (by kernel_rfl) (by kernel_rfl) (by kernel_rfl) ?_
                      refine WA.takePass 9 (some 54) #[true, true, true, true, true, true, true, true, true, true, false, false, false, false, false, false, false, false] (by kernel_rfl) (by kernel_rfl) (by kernel_rfl) (by kernel_rfl) (by kernel_rfl) ?_
                      refine WA.take 10 55 (.bool false) #[true, true, true, true, true, true, true, true, true, true, true, false, false, false, false, false, false, false] (by kernel_rfl) (by kernel_rfl) (by kernel_rfl) (fun _ => by kernel_rfl) (by kernel_rfl) ?_
                      refine WA.take 11 56 (.bool false) #[true, true, true, true, true, true, true, true, true, true, true, true, false, false, false, false, false, false] (by kernel_rfl) (by kernel_rfl) (by kernel_rfl) (fun _ => by kernel_rfl) (by kernel_rfl) ?_
                      refine WA.takePass 12 (some 57) #[true, true, true, true, true, true, true, true, true, true, true, true, true, false, false, false, false, false] (by kernel_rfl) (by kernel_rfl) (by kernel_rfl) (by kernel_rfl) (by kernel_rfl) ?_
                      refine WA.takePass 13 (some 58) #[true, true, true, true, true, true, true, true, true, true, true, true, true, true, false, false, false, false] (by kernel_rfl) (by kernel_rfl) (by kernel_rfl) (by kernel_rfl) (by kernel_rfl) ?_
                      refine WA.take 14 59 (.bool false) #[true, true, true, true, true, true, true, true, true, true, true, true, true, true, true, false, false, false] (by kernel_rfl) (by kernel_rfl) (by kernel_rfl) (fun _ => by kernel_rfl) (by kernel_rfl) ?_
                      refine WA.weaken (env' := [(2, .int .i64 x), (3, .slice la len cap), (4, .pointer (some ⟨b1, 0, none⟩)), (8, .pointer (some ⟨b2, 0, none⟩)), (10, .int .i64 (now - a)), (45, .agg #[.int .i64 q, .int .i64 a, .int .i64 e, .bool o, .bool f]), (46, .int .i64 x), (47, .pointer (some ⟨b1, 0, none⟩)), (48, .int .i64 q), (49, .slice la len cap), (50, .int .i64 (ansF q l)), (51, .bool false), (52, .bool false), (53, undef), (54, undef), (55, .bool false), (56, .bool false), (57, undef), (58, undef), (59, .bool false)]) (by kernel_rfl) ?_
                      exact W19 w42 S42
                  have W22 : ∀ (w43 : World), Sep w [box b2 [.int .i64 0, .int .i64 0, .int .i64 0, .bool false, .bool false] 31, box b1 [.int .i64 q, .int .i64 a, .int .i64 e, .bool o, .bool f] 31] w43 → WA Try.prog 21 61 R K21_21 14 #[true, true, true, false, true, false, false, false, false, false, false, false, false, false, false, false, false, false] [(2, .int .i64 x), (3, .slice la len cap), (4, .pointer (some ⟨b1, 0, none⟩)), (8, .pointer (some ⟨b2, 0, none⟩)), (10, .int .i64 (now - a)), (45, .agg #[.int .i64 q, .int .i64 a, .int .i64 e, .bool o, .bool f]), (46, .int .i64 x), (47, .pointer (some ⟨b1, 0, none⟩)), (49, .slice la len cap)] w43 := by
                    intro w43 S43
                    refine WA.all [3] (by kernel_rfl) rfl ⟨?_, trivial⟩
                    · skip
                      refine WO.set #[true, true, true, true, true, false, false, false, false, false, false, false, false, false, false, false, false, false] (by kernel_rfl) ?_
                      refine WO.ok (OK.ldBox S43 1 48 3 0 (.int .i64 q) (by kernel_rfl) rfl (by kernel_rfl)) ?_
                      refine WA.weaken (env' := [(2, .int .i64 x), (3, .slice la len cap), (4, .pointer (some ⟨b1, 0, none⟩)), (8, .pointer (some ⟨b2, 0, none⟩)), (10, .int .i64 (now - a)), (45, .agg #[.int .i64 q, .int .i64 a, .int .i64 e, .bool o, .bool f]), (46, .int .i64 x), (47, .pointer (some ⟨b1, 0, none⟩)), (48, .int .i64 q), (49, .slice la len cap)]) (by kernel_rfl) ?_
                      exact W21 w43 S43
                  have W23 : ∀ (w44 : World), Sep w [box b2 [.int .i64 0, .int .i64 0, .int .i64 0, .bool false, .bool false] 31, box b1 [.int .i64 q, .int .i64 a, .int .i64 e, .bool o, .bool f] 31] w44 → WA Try.prog 21 61 R K21_21 14 #[false, true, true, true, true, false, false, false, false, false, false, false, false, false, false, false, false, false] [(2, .int .i64 x), (3, .slice la len cap), (4, .pointer (some ⟨b1, 0, none⟩)), (8, .pointer (some ⟨b2, 0, none⟩)), (10, .int .i64 (now - a)), (46, .int .i64 x), (47, .pointer (some ⟨b1, 0, none⟩)), (48, .int .i64 q), (49, .slice la len cap)] w44 := by
                    intro w44 S44
                    refine WA.all [0, 5] (by kernel_rfl) rfl ⟨?_, ?_, trivial⟩
                    · skip
                      refine WO.set #[true, true, true, true, true, false, false, false, false, false, false, false, false, false, false, false, false, false] (by kernel_rfl) ?_
                      refine WO.ok (OK.ldBox S44 1 45 31 0 (.agg #[.int .i64 q, .int .i64 a, .int .i64 e, .bool o, .bool f]) (by kernel_rfl) rfl (by kernel_rfl)) ?_
                      refine WA.weaken (env' := [(2, .int .i64 x), (3, .slice la len cap), (4, .pointer (some ⟨b1, 0, none⟩)), (8, .pointer (some ⟨b2, 0, none⟩)), (10, .int .i64 (now - a)), (45, .agg #[.int .i64 q, .int .i64 a, .int .i64 e, .bool o, .bool f]), (46, .int .i64 x), (47, .pointer (some ⟨b1, 0, none⟩)), (48, .int .i64 q), (49, .slice la len cap)]) (by kernel_rfl) ?_
                      exact W21 w44 S44
                    · skip
                      refine WO.set #[false, true, true, true, true, true, false, false, false, false, false, false, false, false, false, false, false, false] (by kernel_rfl) ?_
                      refine WO.callF 50 16 #[.int .i64 q, .slice la len cap] hb16 (by kernel_rfl) (ranswer_any q la len cap l _ (hI.sep S44) (by omega) (questionB_iff.2 (by omega)) fk2) ?_
                      rintro _ w45 ⟨rfl, T12⟩
                      have S45 : Sep w [box b2 [.int .i64 0, .int .i64 0, .int .i64 0, .bool false, .bool false] 31, box b1 [.int .i64 q, .int .i64 a, .int .i64 e, .bool o, .bool f] 31] w45 := S44.trans T12
                      clear T12 S44
                      refine WA.take 6 51 (.bool (x == (ansF q l))) #[false, true, true, true, true, true, true, false, false, false, false, false, false, false, false, false, false, false] (by kernel_rfl) (by kernel_rfl) (by kernel_rfl) (fun _ => by kernel_rfl) (by kernel_rfl) ?_
                      refine WA.head (.bool false) (congrArg Value.bool (beq_eq_false_iff_ne.2 fk8)) ?_
                      refine WA.take 7 52 (.bool false) #[false, true, true, true, true, true, true, true, false, false, false, false, false, false, false, false, false, false] (by kernel_rfl) (by kernel_rfl) (by kernel_rfl) (fun _ => by kernel_rfl) (by kernel_rfl) ?_
                      refine WA.takePass 8 (some 53) #[false, true, true, true, true, true, true, true, true, false, false, false, false, false, false, false, false, false] (by kernel_rfl) (by kernel_rfl) (by kernel_rfl) (by kernel_rfl) (by kernel_rfl) ?_
                      refine WA.takePass 9 (some 54) #[false, true, true, true, true, true, true, true, true, true, false, false, false, false, false, false, false, false] (by kernel_rfl) (by kernel_rfl) (by kernel_rfl) (by kernel_rfl) (by kernel_rfl) ?_
                      refine WA.take 10 55 (.bool false) #[false, true, true, true, true, true, true, true, true, true, true, false, false, false, false, false, false, false] (by kernel_rfl) (by kernel_rfl) (by kernel_rfl) (fun _ => by kernel_rfl) (by kernel_rfl) ?_
                      refine WA.take 11 56 (.bool false) #[false, true, true, true, true, true, true, true, true, true, true, true, false, false, false, false, false, false] (by kernel_rfl) (by kernel_rfl) (by kernel_rfl) (fun _ => by kernel_rfl) (by kernel_rfl) ?_
                      refine WA.takePass 12 (some 57) #[false, true, true, true, true, true, true, true, true, true, true, true, true, false, false, false, false, false] (by kernel_rfl) (by kernel_rfl) (by kernel_rfl) (by kernel_rfl) (by kernel_rfl) ?_
                      refine WA.takePass 13 (some 58) #[false, true, true, true, true, true, true, true, true, true, true, true, true, true, false, false, false, false] (by kernel_rfl) (by kernel_rfl) (by kernel_rfl) (by kernel_rfl) (by kernel_rfl) ?_
                      refine WA.take 14 59 (.bool false) #[false, true, true, true, true, true, true, true, true, true, true, true, true, true, true, false, false, false] (by kernel_rfl) (by kernel_rfl) (by kernel_rfl) (fun _ => by kernel_rfl) (by kernel_rfl) ?_
                      refine WA.weaken (env' := [(2, .int .i64 x), (3, .slice la len cap), (4, .pointer (some ⟨b1, 0, none⟩)), (8, .pointer (some ⟨b2, 0, none⟩)), (10, .int .i64 (now - a)), (46, .int .i64 x), (47, .pointer (some ⟨b1, 0, none⟩)), (48, .int .i64 q), (49, .slice la len cap), (50, .int .i64 (ansF q l)), (51, .bool false), (52, .bool false), (53, undef), (54, undef), (55, .bool false), (56, .bool false), (57, undef), (58, undef), (59, .bool false)]) (by kernel_rfl) ?_
                      exact W20 w45 S45
                  have W24 : ∀ (w46 : World), Sep w [box b2 [.int .i64 0, .int .i64 0, .int .i64 0, .bool false, .bool false] 31, box b1 [.int .i64 q, .int .i64 a, .int .i64 e, .bool o, .bool f] 31] w46 → WA Try.prog 21 61 R K21_21 15 #[false, true, true, false, true, false, false, false, false, false, false, false, false, false, false, false, false, false] [(2, .int .i64 x), (3, .slice la len cap), (4, .pointer (some ⟨b1, 0, none⟩)), (8, .pointer (some ⟨b2, 0, none⟩)), (10, .int .i64 (now - a)), (46, .int .i64 x), (47, .pointer (some ⟨b1, 0, none⟩)), (49, .slice la len cap)] w46 := by
                    intro w46 S46
                    refine WA.all [0, 3] (by kernel_rfl) rfl ⟨?_, ?_, trivial⟩
                    · skip
                      refine WO.set #[true, true, true, false, true, false, false, false, false, false, false, false, false, false, false, false, false, false] (by kernel_rfl) ?_
                      refine WO.ok (OK.ldBox S46 1 45 31 0 (.agg #[.int .i64 q, .int .i64 a, .int .i64 e, .bool o, .bool f]) (by kernel_rfl) rfl (by kernel_rfl)) ?_
                      refine WA.weaken (env' := [(2, .int .i64 x), (3, .slice la len cap), (4, .pointer (some ⟨b1, 0, none⟩)), (8, .pointer (some ⟨b2, 0, none⟩)), (10, .int .i64 (now - a)), (45, .agg #[.int .i64 q, .int .i64 a, .int .i64 e, .bool o, .bool f]), (46, .int .i64 x), (47, .pointer (some ⟨b1, 0, none⟩)), (49, .slice la len cap)]) (by kernel_rfl) ?_
                      exact W22 w46 S46
                    · skip
                      refine WO.set #[false, true, true, true, true, false, false, false, false, false, false, false, false, false, false, false, false, false] (by kernel_rfl) ?_
                      refine WO.ok (OK.ldBox S46 1 48 3 0 (.int .i64 q) (by kernel_rfl) rfl (by kernel_rfl)) ?_
                      refine WA.weaken (env' := [(2, .int .i64 x), (3, .slice la len cap), (4, .pointer (some ⟨b1, 0, none⟩)), (8, .pointer (some ⟨b2, 0, none⟩)), (10, .int .i64 (now - a)), (46, .int .i64 x), (47, .pointer (some ⟨b1, 0, none⟩)), (48, .int .i64 q), (49, .slice la len cap)]) (by kernel_rfl) ?_
                      exact W23 w46 S46
                  refine J.drawAny S5 18 #[false, false, false, false, false, false, false, false, false, false, false, false, false, false, false, false, false, false] Try.mixed (by kernel_rfl) (by kernel_rfl) (by kernel_rfl) ?_
                  intro w47 S47
                  refine WA.take 1 46 (.int .i64 x) #[false, true, false, false, false, false, false, false, false, false, false, false, false, false, false, false, false, false] (by kernel_rfl) (by kernel_rfl) (by kernel_rfl) (fun _ => by kernel_rfl) (by kernel_rfl) ?_
                  refine WA.take 2 47 (.pointer (some ⟨b1, 0, none⟩)) #[false, true, true, false, false, false, false, false, false, false, false, false, false, false, false, false, false, false] (by kernel_rfl) (by kernel_rfl) (by kernel_rfl) (fun _ => by kernel_rfl) (by kernel_rfl) ?_
                  refine WA.take 4 49 (.slice la len cap) #[false, true, true, false, true, false, false, false, false, false, false, false, false, false, false, false, false, false] (by kernel_rfl) (by kernel_rfl) (by kernel_rfl) (fun _ => by kernel_rfl) (by kernel_rfl) ?_
                  refine WA.weaken (env' := [(2, .int .i64 x), (3, .slice la len cap), (4, .pointer (some ⟨b1, 0, none⟩)), (8, .pointer (some ⟨b2, 0, none⟩)), (10, .int .i64 (now - a)), (46, .int .i64 x), (47, .pointer (some ⟨b1, 0, none⟩)), (49, .slice la len cap)]) (by kernel_rfl) ?_
                  exact W24 w47 S47
            · skip
              refine J.head (.bool true) (congrArg Value.bool (by rw [fk6]; rfl)) ?_
              refine J.run 4 K21_22 [(35, .agg #[.int .i64 0, .int .i64 0, .int .i64 0, .bool false, .bool false]), (8, .pointer (some ⟨b2, 0, none⟩))] w5 (by kernel_rfl) ?_
              refine J.stBox S5 0 31 0 (.agg #[.int .i64 0, .int .i64 0, .int .i64 0, .bool false, .bool false]) [.int .i64 0, .int .i64 0, .int .i64 0, .bool false, .bool false] [box b2 [.int .i64 0, .int .i64 0, .int .i64 0, .bool false, .bool false] 31, box b1 [.int .i64 q, .int .i64 a, .int .i64 e, .bool o, .bool f] 31] (by kernel_rfl) rfl (by kernel_rfl) (by kernel_rfl) rfl ?_
              intro w48 S48
              refine J.run 2 K21_23 [(9, .int .i64 6), (8, .pointer (some ⟨b2, 0, none⟩))] w48 (by kernel_rfl) ?_
              refine J.ret Try.f21 [.agg #[.int .i64 0, .int .i64 0, .int .i64 0, .bool false, .bool false], .int .i64 6] Try.func21 ⟨⟨⟨b2, 0, none⟩, by kernel_rfl, ldV_run (S48.nth 0 rfl) (by kernel_rfl)⟩, by kernel_rfl, trivial⟩ ?_
              refine hR _ _ ?_
              have hw : wordB x = true := wordB_iff.2 (by omega)
              exact ⟨by (try simp only [replyV, replyR, zeroQ, hw, tup_one, tup_two, tup_three, fk1, fk2, fk3]) <;> simp [replyV, replyR, zeroQ, hw, tup_one, tup_two, tup_three, fk1, fk2, fk3, fk6], S48.nil⟩
      · skip
        refine J.head (.bool true) (congrArg Value.bool (by rw [fk3]; rfl)) ?_
        refine J.run 12 K21_24 [(31, .agg #[.int .i64 0, .int .i64 0, .int .i64 0, .bool false, .bool false]), (8, .pointer (some ⟨b2, 0, none⟩))] w5 (by kernel_rfl) ?_
        refine J.stBox S5 0 31 0 (.agg #[.int .i64 0, .int .i64 0, .int .i64 0, .bool false, .bool false]) [.int .i64 0, .int .i64 0, .int .i64 0, .bool false, .bool false] [box b2 [.int .i64 0, .int .i64 0, .int .i64 0, .bool false, .bool false] 31, box b1 [.int .i64 q, .int .i64 a, .int .i64 e, .bool o, .bool f] 31] (by kernel_rfl) rfl (by kernel_rfl) (by kernel_rfl) rfl ?_
        intro w49 S49
        refine J.run 2 K21_25 [(9, .int .i64 2), (8, .pointer (some ⟨b2, 0, none⟩))] w49 (by kernel_rfl) ?_
        refine J.ret Try.f21 [.agg #[.int .i64 0, .int .i64 0, .int .i64 0, .bool false, .bool false], .int .i64 2] Try.func21 ⟨⟨⟨b2, 0, none⟩, by kernel_rfl, ldV_run (S49.nth 0 rfl) (by kernel_rfl)⟩, by kernel_rfl, trivial⟩ ?_
        refine hR _ _ ?_
        exact ⟨by simp [replyV, replyR, zeroQ, tup_one, tup_two, tup_three, fk1, fk2, fk3], S49.nil⟩
    · skip
      refine J.head (.bool true) (congrArg Value.bool (by rw [fk2]; rfl)) ?_
      refine J.run 4 K21_26 [(19, .agg #[.int .i64 0, .int .i64 0, .int .i64 0, .bool false, .bool false]), (8, .pointer (some ⟨b2, 0, none⟩))] w4 (by kernel_rfl) ?_
      refine J.stBox S4 0 31 0 (.agg #[.int .i64 0, .int .i64 0, .int .i64 0, .bool false, .bool false]) [.int .i64 0, .int .i64 0, .int .i64 0, .bool false, .bool false] [box b2 [.int .i64 0, .int .i64 0, .int .i64 0, .bool false, .bool false] 31, box b1 [.int .i64 q, .int .i64 a, .int .i64 e, .bool o, .bool f] 31] (by kernel_rfl) rfl (by kernel_rfl) (by kernel_rfl) rfl ?_
      intro w50 S50
      refine J.run 2 K21_27 [(9, .int .i64 1), (8, .pointer (some ⟨b2, 0, none⟩))] w50 (by kernel_rfl) ?_
      refine J.ret Try.f21 [.agg #[.int .i64 0, .int .i64 0, .int .i64 0, .bool false, .bool false], .int .i64 1] Try.func21 ⟨⟨⟨b2, 0, none⟩, by kernel_rfl, ldV_run (S50.nth 0 rfl) (by kernel_rfl)⟩, by kernel_rfl, trivial⟩ ?_
      refine hR _ _ ?_
      exact ⟨by simp [replyV, replyR, zeroQ, tup_one, tup_two, tup_three, fk1, fk2], S50.nil⟩
  · skip
    refine J.head (.bool true) (congrArg Value.bool (by rw [fk1]; rfl)) ?_
    refine J.run 9 K21_28 [(19, .agg #[.int .i64 0, .int .i64 0, .int .i64 0, .bool false, .bool false]), (8, .pointer (some ⟨b2, 0, none⟩))] w3 (by kernel_rfl) ?_
    refine J.stBox S3 0 31 0 (.agg #[.int .i64 0, .int .i64 0, .int .i64 0, .bool false, .bool false]) [.int .i64 0, .int .i64 0, .int .i64 0, .bool false, .bool false] [box b2 [.int .i64 0, .int .i64 0, .int .i64 0, .bool false, .bool false] 31, box b1 [.int .i64 q, .int .i64 a, .int .i64 e, .bool o, .bool f] 31] (by kernel_rfl) rfl (by kernel_rfl) (by kernel_rfl) rfl ?_
    intro w51 S51
    refine J.run 2 K21_29 [(9, .int .i64 1), (8, .pointer (some ⟨b2, 0, none⟩))] w51 (by kernel_rfl) ?_
    refine J.ret Try.f21 [.agg #[.int .i64 0, .int .i64 0, .int .i64 0, .bool false, .bool false], .int .i64 1] Try.func21 ⟨⟨⟨b2, 0, none⟩, by kernel_rfl, ldV_run (S51.nth 0 rfl) (by kernel_rfl)⟩, by kernel_rfl, trivial⟩ ?_
    refine hR _ _ ?_
    exact ⟨by simp [replyV, replyR, zeroQ, tup_one, tup_two, tup_three, fk1], S51.nil⟩

theorem parts_ok {l : List Int} (h1 : 1 ≤ l.length) (h2 : l.length ≤ 16) (h : ∀ j, j < l.length → 0 ≤ l.getD j 0 ∧ l.getD j 0 ≤ 65535) : partsB l = true := by
  simp only [partsB, Bool.and_eq_true, decide_eq_true_eq]
  exact ⟨⟨h1, h2⟩, all_of_getD fun j hj => wordB_iff.2 (h j hj)⟩
theorem ansF_cong {q q' : Int} (l : List Int) (h : q % 65536 = q' % 65536) : ansF q l % 65536 = ansF q' l % 65536 := by
  unfold ansF
  induction l generalizing q q' with
  | nil => exact h
  | cons x l ih => exact ih (by show (5 * q + x + 1) % 65536 % 65536 = (5 * q' + x + 1) % 65536 % 65536; omega)
theorem ansF_inj {q q' : Int} (l : List Int) (hq : 0 ≤ q ∧ q ≤ 65535) (hq' : 0 ≤ q' ∧ q' ≤ 65535) (h : ansF q l = ansF q' l) : q = q' := by
  unfold ansF at h
  induction l generalizing q q' with
  | nil => exact h
  | cons x l ih =>
    have := ih (q := (5 * q + x + 1) % 65536) (q' := (5 * q' + x + 1) % 65536) (by omega) (by omega) h
    omega
theorem ansF_set {q : Int} (l : List Int) (i : Nat) (hi : i < l.length) (b : Int) (hb : 1 ≤ b ∧ b ≤ 65535) (hq : 0 ≤ q ∧ q ≤ 65535) (hl : 0 ≤ l.getD i 0 ∧ l.getD i 0 ≤ 65535) :
    ansF q l ≠ ansF q (l.set i ((l.getD i 0 + b) % 65536)) := by
  induction l generalizing q i with
  | nil => simp at hi
  | cons x l ih =>
    cases i with
    | zero =>
      intro h
      have h2 := ansF_inj (q := (5 * q + x + 1) % 65536) (q' := (5 * q + (x + b) % 65536 + 1) % 65536) l (by omega) (by omega) h
      simp at hl
      omega
    | succ i =>
      exact ih (q := (5 * q + x + 1) % 65536) i (by simpa using hi) (by omega) (by simpa using hl)
theorem hb9 : HasBody Try.prog 9 := fun _ _ => by kernel_rfl
noncomputable def K9_0 : List Item := adv 6 [] (bodyOf Try.f9)
noncomputable def K9_1 : List Item := adv 8 [] (popK (popK K9_0))
noncomputable def K9_2 : List Item := adv 2 [] (popK K9_1)
noncomputable def K9_3 : List Item := adv 3 [] (popK K9_2)
noncomputable def K9_4 : List Item := adv 4 [] K9_3
noncomputable def K9_5 : List Item := adv 5 [] K9_4
set_option maxRecDepth 20000 in
set_option maxHeartbeats 20000000 in
theorem awake_any  (w : World) : Ret Try.prog 9 #[] w (fun v w' => v = .bool true ∧ Sep w [] w') := by
  have S0 := Sep.refl w
  refine Ret.named fun R hR => ?_
  refine Ret.of_J (N := 22) [] Try.func9 rfl rfl (Nat.le_of_ble_eq_true (by kernel_rfl)) (by kernel_rfl) ?_
  refine J.run 6 K9_0 [] w (by kernel_rfl) ?_
  refine J.newSlice S0 4 2 [.int .i64 0, .int .i64 7] 3 (by kernel_rfl) ?_
  intro b1 w1 S1
  have fk1 : (partsB ([0, 7])) = true := by decide
  have fk2 : (questionB 1) = true := by decide
  refine J.callF 5 10 #[.int .i64 1, .slice (some ⟨b1, 0, none⟩) 2 2] hb10 (by kernel_rfl) (answer_any 1 (some ⟨b1, 0, none⟩) 2 2 ([0, 7]) _ ((box_ints [0, 7] (S1.nth 0 rfl) rfl 2 rfl)) (by omega)) ?_
  rintro _ w2 ⟨rfl, T1⟩
  have S2 : Sep w [box b1 [.int .i64 0, .int .i64 7] 3] w2 := S1.trans T1
  clear T1 S1
  refine J.head (.tuple #[.int .i64 (ansF 1 ([0, 7])), .int .i64 0]) (by first | (simp only [ansV, fk1, fk2, reduceCtorEq, ↓reduceIte]; done) | simp [ansV, fk1, fk2]) ?_
  refine J.run 8 K9_1 [(2, .int .i64 0), (1, .int .i64 (ansF 1 ([0, 7])))] w2 (by kernel_rfl) ?_
  refine J.callF 8 12 #[.int .i64 1] hb12 (by kernel_rfl) (next_any 1 _) ?_
  rintro _ w3 ⟨rfl, T2⟩
  have S3 : Sep w [box b1 [.int .i64 0, .int .i64 7] 3] w3 := S2.trans T2
  clear T2 S2
  refine J.head (.int .i64 (nextF 1)) (by first | (simp only [nextV, fk2, reduceCtorEq, ↓reduceIte]; done) | simp [nextV, fk2]) ?_
  refine J.run 2 K9_2 [(10, .bool ((nextF 1) == 46080)), (2, .int .i64 0), (1, .int .i64 (ansF 1 ([0, 7])))] w3 (by kernel_rfl) ?_
  have fk4 : (nextF 1) = 46080 := by decide
  refine J.head (.bool true) (congrArg Value.bool (beq_iff_eq.2 fk4)) ?_
  have fk5 : (questionB 2) = true := by decide
  refine J.callF 11 12 #[.int .i64 2] hb12 (by kernel_rfl) (next_any 2 _) ?_
  rintro _ w4 ⟨rfl, T3⟩
  have S4 : Sep w [box b1 [.int .i64 0, .int .i64 7] 3] w4 := S3.trans T3
  clear T3 S3
  refine J.head (.int .i64 (nextF 2)) (by first | (simp only [nextV, fk5, reduceCtorEq, ↓reduceIte]; done) | simp [nextV, fk5]) ?_
  refine J.run 3 K9_3 [(14, .bool ((nextF 2) == 1)), (2, .int .i64 0), (1, .int .i64 (ansF 1 ([0, 7])))] w4 (by kernel_rfl) ?_
  have fk7 : (nextF 2) = 1 := by decide
  refine J.head (.bool true) (congrArg Value.bool (beq_iff_eq.2 fk7)) ?_
  refine J.run 4 K9_4 [(18, .bool ((ansF 1 ([0, 7])) == 38)), (2, .int .i64 0)] w4 (by kernel_rfl) ?_
  have fk9 : (ansF 1 ([0, 7])) = 38 := by decide
  refine J.head (.bool true) (congrArg Value.bool (beq_iff_eq.2 fk9)) ?_
  refine J.run 5 K9_5 [(0, .bool true)] w4 (by kernel_rfl) ?_
  refine J.ret Try.f9 [.bool true] Try.func9 ⟨by kernel_rfl, trivial⟩ ?_
  refine hR _ _ ?_
  exact ⟨congrArg Value.bool (by decide), S4.nil⟩

theorem set_word {l : List Int} (h : ∀ j, 0 ≤ l.getD j 0 ∧ l.getD j 0 ≤ 65535) (i : Nat) (x : Int) (hx : 0 ≤ x ∧ x ≤ 65535) (j : Nat) : 0 ≤ (l.set i x).getD j 0 ∧ (l.set i x).getD j 0 ≤ 65535 := by
  have := h j
  simp only [List.getD, List.getElem?_set] at this ⊢
  split
  · split <;> simp <;> omega
  · exact this
theorem ans_iff {q q' : Int} (l : List Int) (hq : 0 ≤ q ∧ q ≤ 65535) (hq' : 0 ≤ q' ∧ q' ≤ 65535) : ((ansF q l == ansF q' l) == (q == q')) = true := by
  have h : (ansF q l == ansF q' l) = (q == q') := by
    rw [Bool.eq_iff_iff]
    simp only [beq_iff_eq]
    exact ⟨ansF_inj l hq hq', fun h => by rw [h]⟩
  rw [h]; simp
theorem hb3 : HasBody Try.prog 3 := fun _ _ => by kernel_rfl
noncomputable def K3_0 : List Item := adv 7 [] (bodyOf Try.f3)
noncomputable def K3_1 : List Item := adv 7 [] (popK K3_0)
noncomputable def K3_2 : List Item := adv 20 [true] K3_1
noncomputable def K3_3 : List Item := adv 2 [] (popK K3_2)
noncomputable def K3_4 : List Item := adv 5 [] K3_1
noncomputable def K3_5 : List Item := adv 15 [true] K3_4
noncomputable def K3_6 : List Item := adv 2 [] (popK K3_5)
noncomputable def K3_7 : List Item := adv 4 [] K3_4
noncomputable def K3_8 : List Item := adv 11 [true] K3_7
noncomputable def K3_9 : List Item := adv 2 [] (popK K3_8)
noncomputable def K3_10 : List Item := adv 4 [] K3_7
noncomputable def K3_11 : List Item := adv 7 [true] K3_10
noncomputable def K3_12 : List Item := adv 2 [] (popK K3_11)
noncomputable def K3_13 : List Item := adv 4 [] K3_10
noncomputable def K3_14 : List Item := adv 3 [true] K3_13
noncomputable def K3_15 : List Item := adv 2 [] (popK K3_14)
noncomputable def K3_16 : List Item := adv 15 [false] K3_13
noncomputable def K3_17 : List Item := adv 5 [] K3_16
noncomputable def K3_18 : List Item := adv 6 [true] K3_17
noncomputable def K3_19 : List Item := adv 6 [] (popK (popK K3_18))
noncomputable def K3_20 : List Item := adv 5 [] (popK (popK K3_19))
noncomputable def K3_21 : List Item := adv 6 [false] K3_17
noncomputable def K3_22 : List Item := adv 1 [] K3_21
noncomputable def K3_23 : List Item := adv 10 [] (popK K3_22)
noncomputable def K3_24 : List Item := adv 1 [] K3_23
noncomputable def K3_25 : List Item := adv 10 [] (popK K3_24)
noncomputable def K3_26 : List Item := adv 2 [] K3_25
noncomputable def K3_27 : List Item := adv 8 [] (popK K3_26)
noncomputable def K3_28 : List Item := adv 2 [] (popK (popK K3_27))
noncomputable def K3_29 : List Item := adv 1 [] K3_28
noncomputable def K3_30 : List Item := adv 1 [] K3_29
noncomputable def K3_31 : List Item := adv 5 [] (popK (popK K3_30))
noncomputable def K3_32 : List Item := adv 1 [] K3_31
noncomputable def K3_33 : List Item := adv 23 [] (popK K3_32)
noncomputable def K3_34 : List Item := adv 4 [] K3_33
noncomputable def K3_35 : List Item := adv 5 [] K3_34
noncomputable def K3_36 : List Item := adv 10 [] K3_35
set_option maxRecDepth 20000 in
set_option maxHeartbeats 20000000 in
theorem differs_any (question other : Int) (pa : Option Addr) (len cap : Nat) (l : List Int) (which bye : Int) (w : World) (hP : Ones (Value.int .u16) w pa len l) (hlen : len ≤ 9223372036854775807) (hpl : ∀ j, 0 ≤ l.getD j 0 ∧ l.getD j 0 ≤ 65535) (hq : 0 ≤ question ∧ question ≤ 65535) (ho : 0 ≤ other ∧ other ≤ 65535) (hw : 0 ≤ which ∧ which ≤ 255) (hb : 0 ≤ bye ∧ bye ≤ 65535) : Ret Try.prog 3 #[.int .u16 question, .int .u16 other, .slice pa len cap, .int .u8 which, .int .u16 bye] w (fun v w' => v = .bool true ∧ Sep w [] w') := by
  have S0 := Sep.refl w
  refine Ret.named fun R hR => ?_
  refine Ret.of_J (N := 127) [(0, .int .u16 question), (1, .int .u16 other), (2, .slice pa len cap), (3, .int .u8 which), (4, .int .u16 bye)] Try.func3 rfl rfl (Nat.le_of_ble_eq_true (by kernel_rfl)) (by kernel_rfl) ?_
  refine J.run 7 K3_0 [(0, .int .u16 question), (1, .int .u16 other), (2, .slice pa len cap), (3, .int .u8 which), (4, .int .u16 bye)] w (by kernel_rfl) ?_
  refine J.callF 21 9 #[] hb9 (by kernel_rfl) (awake_any  _) ?_
  rintro _ w1 ⟨rfl, T1⟩
  have S1 : Sep w [] w1 := S0.trans T1
  clear T1
  refine J.run 7 K3_1 [(28, .bool (decide ((len : Int) < 1))), (0, .int .u16 question), (1, .int .u16 other), (2, .slice pa len cap), (3, .int .u8 which), (4, .int .u16 bye)] w1 (by kernel_rfl) ?_
  by_cases fk1 : (len : Int) < 1
  · skip
    refine J.head (.bool true) (congrArg Value.bool (decide_eq_true fk1)) ?_
    refine J.run 20 K3_2 [] w1 (by kernel_rfl) ?_
    refine J.callF 45 9 #[] hb9 (by kernel_rfl) (awake_any  _) ?_
    rintro _ w2 ⟨rfl, T2⟩
    have S2 : Sep w [] w2 := S1.trans T2
    clear T2 S1
    refine J.run 2 K3_3 [(10, .bool true)] w2 (by kernel_rfl) ?_
    refine J.ret Try.f3 [.bool true] Try.func3 ⟨by kernel_rfl, trivial⟩ ?_
    refine hR _ _ ?_
    exact ⟨rfl, S2.nil⟩
  · skip
    refine J.head (.bool false) (congrArg Value.bool (decide_eq_false fk1)) ?_
    refine J.run 5 K3_4 [(33, .bool (decide ((len : Int) > 16))), (0, .int .u16 question), (1, .int .u16 other), (2, .slice pa len cap), (3, .int .u8 which), (4, .int .u16 bye)] w1 (by kernel_rfl) ?_
    by_cases fk2 : (len : Int) > 16
    · skip
      refine J.head (.bool true) (congrArg Value.bool (decide_eq_true fk2)) ?_
      refine J.run 15 K3_5 [] w1 (by kernel_rfl) ?_
      refine J.callF 45 9 #[] hb9 (by kernel_rfl) (awake_any  _) ?_
      rintro _ w3 ⟨rfl, T3⟩
      have S3 : Sep w [] w3 := S1.trans T3
      clear T3 S1
      refine J.run 2 K3_6 [(10, .bool true)] w3 (by kernel_rfl) ?_
      refine J.ret Try.f3 [.bool true] Try.func3 ⟨by kernel_rfl, trivial⟩ ?_
      refine hR _ _ ?_
      exact ⟨rfl, S3.nil⟩
    · skip
      refine J.head (.bool false) (congrArg Value.bool (decide_eq_false fk2)) ?_
      refine J.run 4 K3_7 [(37, .bool (question == 0)), (0, .int .u16 question), (1, .int .u16 other), (2, .slice pa len cap), (3, .int .u8 which), (4, .int .u16 bye)] w1 (by kernel_rfl) ?_
      by_cases fk3 : question = 0
      · skip
        refine J.head (.bool true) (congrArg Value.bool (beq_iff_eq.2 fk3)) ?_
        refine J.run 11 K3_8 [] w1 (by kernel_rfl) ?_
        refine J.callF 45 9 #[] hb9 (by kernel_rfl) (awake_any  _) ?_
        rintro _ w4 ⟨rfl, T4⟩
        have S4 : Sep w [] w4 := S1.trans T4
        clear T4 S1
        refine J.run 2 K3_9 [(10, .bool true)] w4 (by kernel_rfl) ?_
        refine J.ret Try.f3 [.bool true] Try.func3 ⟨by kernel_rfl, trivial⟩ ?_
        refine hR _ _ ?_
        exact ⟨rfl, S4.nil⟩
      · skip
        refine J.head (.bool false) (congrArg Value.bool (beq_eq_false_iff_ne.2 fk3)) ?_
        refine J.run 4 K3_10 [(41, .bool (other == 0)), (0, .int .u16 question), (1, .int .u16 other), (2, .slice pa len cap), (3, .int .u8 which), (4, .int .u16 bye)] w1 (by kernel_rfl) ?_
        by_cases fk4 : other = 0
        · skip
          refine J.head (.bool true) (congrArg Value.bool (beq_iff_eq.2 fk4)) ?_
          refine J.run 7 K3_11 [] w1 (by kernel_rfl) ?_
          refine J.callF 45 9 #[] hb9 (by kernel_rfl) (awake_any  _) ?_
          rintro _ w5 ⟨rfl, T5⟩
          have S5 : Sep w [] w5 := S1.trans T5
          clear T5 S1
          refine J.run 2 K3_12 [(10, .bool true)] w5 (by kernel_rfl) ?_
          refine J.ret Try.f3 [.bool true] Try.func3 ⟨by kernel_rfl, trivial⟩ ?_
          refine hR _ _ ?_
          exact ⟨rfl, S5.nil⟩
        · skip
          refine J.head (.bool false) (congrArg Value.bool (beq_eq_false_iff_ne.2 fk4)) ?_
          refine J.run 4 K3_13 [(44, .bool (bye == 0)), (0, .int .u16 question), (1, .int .u16 other), (2, .slice pa len cap), (3, .int .u8 which), (4, .int .u16 bye)] w1 (by kernel_rfl) ?_
          by_cases fk5 : bye = 0
          · skip
            refine J.head (.bool true) (congrArg Value.bool (beq_iff_eq.2 fk5)) ?_
            refine J.run 3 K3_14 [] w1 (by kernel_rfl) ?_
            refine J.callF 45 9 #[] hb9 (by kernel_rfl) (awake_any  _) ?_
            rintro _ w6 ⟨rfl, T6⟩
            have S6 : Sep w [] w6 := S1.trans T6
            clear T6 S1
            refine J.run 2 K3_15 [(10, .bool true)] w6 (by kernel_rfl) ?_
            refine J.ret Try.f3 [.bool true] Try.func3 ⟨by kernel_rfl, trivial⟩ ?_
            refine hR _ _ ?_
            exact ⟨rfl, S6.nil⟩
          · skip
            refine J.head (.bool false) (congrArg Value.bool (beq_eq_false_iff_ne.2 fk5)) ?_
            refine J.run 15 K3_16 [(48, .int .i64 0), (47, .int .i64 (len : Int)), (46, .slice pa len cap), (11, .slice none 0 0), (0, .int .u16 question), (1, .int .u16 other), (3, .int .u8 which), (4, .int .u16 bye)] w1 (by kernel_rfl) ?_
            have S7 : Sep w [rowOf encI none 0 3 1 ([])] w1 := S1.nilRow 3 1
            have L3_1 : ∀ (m : Nat) (ra : Option Addr) (rc : Nat) (ls : List Int) (i : Int) (w7 : World), (0 ≤ i) → (i ≤ (len : Int)) → (ls = l.take (i).toNat) → ((ls).length = (i).toNat) → Sep w [rowOf encI ra rc 3 1 ls] w7 → ((len : Int) - i).toNat = m → J Try.prog 3 127 R K3_16 [(48, .int .i64 i), (47, .int .i64 (len : Int)), (46, .slice pa len cap), (11, .slice ra ls.length rc), (0, .int .u16 question), (1, .int .u16 other), (3, .int .u8 which), (4, .int .u16 bye)] w7 := by
              intro m
              induction m using Nat.strongRecOn with
              | _ m ih1 =>
              intro ra rc ls i w7 h0 h1 hls hn S8 hm1
              have hpl2 := hpl i.toNat
              refine J.run 5 K3_17 [(49, .bool (decide (i < (len : Int)))), (48, .int .i64 i), (47, .int .i64 (len : Int)), (46, .slice pa len cap), (11, .slice ra ls.length rc), (0, .int .u16 question), (1, .int .u16 other), (3, .int .u8 which), (4, .int .u16 bye)] w7 (by kernel_rfl) ?_
              by_cases fk6 : i < (len : Int)
              · skip
                refine J.head (.bool true) (congrArg Value.bool (decide_eq_true fk6)) ?_
                refine J.run 6 K3_18 [(48, .int .i64 i), (47, .int .i64 (len : Int)), (46, .slice pa len cap), (11, .slice ra ls.length rc), (0, .int .u16 question), (1, .int .u16 other), (3, .int .u8 which), (4, .int .u16 bye)] w7 (by kernel_rfl) ?_
                obtain ⟨p1, hp1, hc1⟩ := hP.at 0 (i).toNat (by omega)
                refine J.ok (OK.index 50 23 1 pa p1 len (i).toNat i (p1.add (i).toNat) (by kernel_rfl) (by kernel_rfl) hp1 (by omega) (by omega) (by rw [Nat.mul_one])) ?_
                refine J.ok (OK.ldCell 51 22 (p1.add (i).toNat) (.int .u16 (l.getD (i).toNat 0)) (by kernel_rfl) (by kernel_rfl) (S8.cell hc1)) ?_
                refine J.run 6 K3_19 [(54, .int .i64 (IntKind.wrap .i64 (l.getD (i).toNat 0))), (52, .slice ra ls.length rc), (48, .int .i64 i), (47, .int .i64 (len : Int)), (46, .slice pa len cap), (0, .int .u16 question), (1, .int .u16 other), (3, .int .u8 which), (4, .int .u16 bye)] w7 (by kernel_rfl) ?_
                refine J.head (.int .i64 (l.getD (i).toNat 0)) (congrArg (Value.int .i64) (IntWalk.i64_in _ (by omega))) ?_
                refine J.newSlice S8 55 1 [.int .i64 (l.getD (i).toNat 0)] 3 (by kernel_rfl) ?_
                intro b1 w8 S9
                refine J.append encI S9 1 ls (l.getD (i).toNat 0) 56 25 (.int .i64 0) 8 ⟨b1, 0, none⟩ 1 rfl (by kernel_rfl) (by kernel_rfl) (by kernel_rfl) (by kernel_rfl) (by decide) (box_cells (S9.nth 0 rfl)) (by kernel_rfl) (by kernel_rfl) (⟨by omega, by omega⟩) ?_
                intro ra1 rc1 w9 S10
                replace S10 : Sep w [box b1 [.int .i64 (l.getD (i).toNat 0)] 3, rowOf encI ra1 rc1 3 1 (ls ++ [l.getD (i).toNat 0])] w9 := S10
                have S11 : Sep w [rowOf encI ra1 rc1 3 1 (ls ++ [l.getD (i).toNat 0])] w9 := S10.erase 0
                clear S10
                refine J.run 5 K3_20 [(57, .int .i64 (IntKind.wrap .i64 (i + 1))), (11, .slice ra1 ((ls ++ [l.getD (i).toNat 0]).length) rc1), (47, .int .i64 (len : Int)), (46, .slice pa len cap), (0, .int .u16 question), (1, .int .u16 other), (3, .int .u8 which), (4, .int .u16 bye)] w9 (by kernel_rfl) ?_
                refine J.head (.int .i64 (i + 1)) (congrArg (Value.int .i64) (IntWalk.i64_in _ (by omega))) ?_
                refine J.run 3 K3_16 [(48, .int .i64 (i + 1)), (11, .slice ra1 ((ls ++ [l.getD (i).toNat 0]).length) rc1), (47, .int .i64 (len : Int)), (46, .slice pa len cap), (0, .int .u16 question), (1, .int .u16 other), (3, .int .u8 which), (4, .int .u16 bye)] w9 (by kernel_rfl) ?_
                refine J.run 0 K3_16 [(48, .int .i64 (i + 1)), (47, .int .i64 (len : Int)), (46, .slice pa len cap), (11, .slice ra1 ((ls ++ [l.getD (i).toNat 0]).length) rc1), (0, .int .u16 question), (1, .int .u16 other), (3, .int .u8 which), (4, .int .u16 bye)] w9 (by kernel_rfl) ?_
                exact ih1 _ (show ((len : Int) - (i + 1)).toNat < m from by omega) ra1 rc1 (ls ++ [l.getD (i).toNat 0]) (i + 1) w9 (by omega) (by omega) (by rw [hls, show (i + 1).toNat = i.toNat + 1 by omega, take_snoc l i.toNat (by have := hP.len_eq; omega)]) (by simp; omega) S11 rfl
              · skip
                refine J.head (.bool false) (congrArg Value.bool (decide_eq_false fk6)) ?_
                have hls2 : ls = l := by rw [hls, List.take_of_length_le (by have := hP.len_eq; omega)]
                refine J.run 6 K3_21 [(60, .int .i64 (IntKind.wrap .i64 question)), (11, .slice ra ls.length rc), (0, .int .u16 question), (1, .int .u16 other), (3, .int .u8 which), (4, .int .u16 bye)] w7 (by kernel_rfl) ?_
                refine J.head (.int .i64 question) (congrArg (Value.int .i64) (IntWalk.i64_in _ (by omega))) ?_
                refine J.run 1 K3_22 [(61, .slice ra ls.length rc), (60, .int .i64 question), (11, .slice ra ls.length rc), (0, .int .u16 question), (1, .int .u16 other), (3, .int .u8 which), (4, .int .u16 bye)] w7 (by kernel_rfl) ?_
                have fk7 : (partsB ls) = true := parts_ok (by omega) (by omega) (fun j _ => by rw [hls2]; exact hpl j)
                have fk8 : (questionB question) = true := questionB_iff.2 (by omega)
                refine J.callF 62 10 #[.int .i64 question, .slice ra ls.length rc] hb10 (by kernel_rfl) (answer_any question ra ls.length rc ls _ ((rowI_intsN (S8.nth 0 rfl) ls.length (by simp))) (by omega)) ?_
                rintro _ w10 ⟨rfl, T7⟩
                have S12 : Sep w [rowOf encI ra rc 3 1 ls] w10 := S8.trans T7
                clear T7 S8
                refine J.head (.tuple #[.int .i64 (ansF question ls), .int .i64 0]) (by first | (simp only [ansV, fk7, fk8, reduceCtorEq, ↓reduceIte]; done) | simp [ansV, fk7, fk8]) ?_
                refine J.run 10 K3_23 [(67, .int .i64 (IntKind.wrap .i64 other)), (15, .int .i64 0), (14, .int .i64 (ansF question ls)), (11, .slice ra ls.length rc), (0, .int .u16 question), (1, .int .u16 other), (3, .int .u8 which), (4, .int .u16 bye)] w10 (by kernel_rfl) ?_
                refine J.head (.int .i64 other) (congrArg (Value.int .i64) (IntWalk.i64_in _ (by omega))) ?_
                refine J.run 1 K3_24 [(68, .slice ra ls.length rc), (67, .int .i64 other), (15, .int .i64 0), (14, .int .i64 (ansF question ls)), (11, .slice ra ls.length rc), (0, .int .u16 question), (1, .int .u16 other), (3, .int .u8 which), (4, .int .u16 bye)] w10 (by kernel_rfl) ?_
                have fk9 : (questionB other) = true := questionB_iff.2 (by omega)
                refine J.callF 69 10 #[.int .i64 other, .slice ra ls.length rc] hb10 (by kernel_rfl) (answer_any other ra ls.length rc ls _ ((rowI_intsN (S12.nth 0 rfl) ls.length (by simp))) (by omega)) ?_
                rintro _ w11 ⟨rfl, T8⟩
                have S13 : Sep w [rowOf encI ra rc 3 1 ls] w11 := S12.trans T8
                clear T8 S12
                refine J.head (.tuple #[.int .i64 (ansF other ls), .int .i64 0]) (by first | (simp only [ansV, fk7, fk9, reduceCtorEq, ↓reduceIte]; done) | simp [ansV, fk7, fk9]) ?_
                refine J.run 10 K3_25 [(73, .int .i64 (IntKind.wrap .i64 which)), (17, .int .i64 0), (16, .int .i64 (ansF other ls)), (15, .int .i64 0), (14, .int .i64 (ansF question ls)), (11, .slice ra ls.length rc), (0, .int .u16 question), (1, .int .u16 other), (4, .int .u16 bye)] w11 (by kernel_rfl) ?_
                refine J.head (.int .i64 which) (congrArg (Value.int .i64) (IntWalk.i64_in _ (by omega))) ?_
                refine J.run 2 K3_26 [(75, .int .i64 (ls.length : Int)), (73, .int .i64 which), (17, .int .i64 0), (16, .int .i64 (ansF other ls)), (15, .int .i64 0), (14, .int .i64 (ansF question ls)), (11, .slice ra ls.length rc), (0, .int .u16 question), (1, .int .u16 other), (4, .int .u16 bye)] w11 (by kernel_rfl) ?_
                refine J.ok (OK.rem 76 .i64 which (ls.length : Int) (by kernel_rfl) (by omega)) ?_
                have hm1 := Int.emod_nonneg which (show (ls.length : Int) ≠ 0 by omega)
                have hm2 := Int.emod_lt_of_pos which (show 0 < (ls.length : Int) by omega)
                have hpl3 : 0 ≤ ls.getD (which % (ls.length : Int)).toNat 0 ∧ ls.getD (which % (ls.length : Int)).toNat 0 ≤ 65535 := by rw [hls2]; exact hpl _
                refine J.head (.int .i64 (which % (ls.length : Int))) (congrArg (Value.int .i64) (IntWalk.rem_in _ _ (by omega))) ?_
                refine J.run 8 K3_27 [(80, .int .i64 (which % (ls.length : Int))), (79, .slice ra ls.length rc), (78, .int .i64 (which % (ls.length : Int))), (77, .slice ra ls.length rc), (17, .int .i64 0), (16, .int .i64 (ansF other ls)), (15, .int .i64 0), (14, .int .i64 (ansF question ls)), (11, .slice ra ls.length rc), (0, .int .u16 question), (1, .int .u16 other), (4, .int .u16 bye)] w11 (by kernel_rfl) ?_
                obtain ⟨p2, hp2, hc2⟩ := (rowI_intsN (S13.nth 0 rfl) ls.length (by simp)).at 0 (which % (ls.length : Int)).toNat (by omega)
                refine J.ok (OK.index 81 25 1 ra p2 ls.length (which % (ls.length : Int)).toNat (which % (ls.length : Int)) (p2.add (which % (ls.length : Int)).toNat) (by kernel_rfl) (by kernel_rfl) hp2 (by omega) (by omega) (by rw [Nat.mul_one])) ?_
                refine J.ok (OK.ldCell 82 3 (p2.add (which % (ls.length : Int)).toNat) (.int .i64 (ls.getD (which % (ls.length : Int)).toNat 0)) (by kernel_rfl) (by kernel_rfl) hc2) ?_
                refine J.run 2 K3_28 [(84, .int .i64 (IntKind.wrap .i64 bye)), (82, .int .i64 (ls.getD (which % (ls.length : Int)).toNat 0)), (78, .int .i64 (which % (ls.length : Int))), (77, .slice ra ls.length rc), (17, .int .i64 0), (16, .int .i64 (ansF other ls)), (15, .int .i64 0), (14, .int .i64 (ansF question ls)), (11, .slice ra ls.length rc), (0, .int .u16 question), (1, .int .u16 other)] w11 (by kernel_rfl) ?_
                refine J.head (.int .i64 bye) (congrArg (Value.int .i64) (IntWalk.i64_in _ (by omega))) ?_
                refine J.run 1 K3_29 [(85, .int .i64 (IntKind.wrap .i64 ((ls.getD (which % (ls.length : Int)).toNat 0) + bye))), (78, .int .i64 (which % (ls.length : Int))), (77, .slice ra ls.length rc), (17, .int .i64 0), (16, .int .i64 (ansF other ls)), (15, .int .i64 0), (14, .int .i64 (ansF question ls)), (11, .slice ra ls.length rc), (0, .int .u16 question), (1, .int .u16 other)] w11 (by kernel_rfl) ?_
                refine J.head (.int .i64 ((ls.getD (which % (ls.length : Int)).toNat 0) + bye)) (congrArg (Value.int .i64) (IntWalk.i64_in _ (by omega))) ?_
                refine J.run 1 K3_30 [(86, .int .i64 (Int.tmod ((ls.getD (which % (ls.length : Int)).toNat 0) + bye) 65536)), (78, .int .i64 (which % (ls.length : Int))), (77, .slice ra ls.length rc), (17, .int .i64 0), (16, .int .i64 (ansF other ls)), (15, .int .i64 0), (14, .int .i64 (ansF question ls)), (11, .slice ra ls.length rc), (0, .int .u16 question), (1, .int .u16 other)] w11 (by kernel_rfl) ?_
                refine J.head (.int .i64 (((ls.getD (which % (ls.length : Int)).toNat 0) + bye) % 65536)) (congrArg (Value.int .i64) (IntWalk.rem_in _ _ (by omega))) ?_
                refine J.ok (OK.index 87 25 1 ra p2 ls.length (which % (ls.length : Int)).toNat (which % (ls.length : Int)) (p2.add (which % (ls.length : Int)).toNat) (by kernel_rfl) (by kernel_rfl) hp2 (by omega) (by omega) (by rw [Nat.mul_one])) ?_
                refine J.stRowI S13 0 ls 3 p2 (which % (ls.length : Int)).toNat (((ls.getD (which % (ls.length : Int)).toNat 0) + bye) % 65536) rfl (by kernel_rfl) hp2 (by omega) (by kernel_rfl) ?_
                intro w12 S14
                replace S14 : Sep w [rowOf encI ra rc 3 1 (ls.set (which % (ls.length : Int)).toNat (((ls.getD (which % (ls.length : Int)).toNat 0) + bye) % 65536))] w12 := S14
                refine J.run 5 K3_31 [(90, .int .i64 (IntKind.wrap .i64 question)), (17, .int .i64 0), (16, .int .i64 (ansF other ls)), (15, .int .i64 0), (14, .int .i64 (ansF question ls)), (11, .slice ra ls.length rc), (0, .int .u16 question), (1, .int .u16 other)] w12 (by kernel_rfl) ?_
                refine J.head (.int .i64 question) (congrArg (Value.int .i64) (IntWalk.i64_in _ (by omega))) ?_
                refine J.run 1 K3_32 [(91, .slice ra ls.length rc), (90, .int .i64 question), (17, .int .i64 0), (16, .int .i64 (ansF other ls)), (15, .int .i64 0), (14, .int .i64 (ansF question ls)), (0, .int .u16 question), (1, .int .u16 other)] w12 (by kernel_rfl) ?_
                have fk10 : (partsB (ls.set (which % (ls.length : Int)).toNat (((ls.getD (which % (ls.length : Int)).toNat 0) + bye) % 65536))) = true := parts_ok (by simp; omega) (by simp; omega) (fun j _ => set_word (fun j => by rw [hls2]; exact hpl j) _ _ (by omega) j)
                refine J.callF 92 10 #[.int .i64 question, .slice ra ls.length rc] hb10 (by kernel_rfl) (answer_any question ra ls.length rc (ls.set (which % (ls.length : Int)).toNat (((ls.getD (which % (ls.length : Int)).toNat 0) + bye) % 65536)) _ ((rowI_intsN (S14.nth 0 rfl) ls.length (by simp))) (by omega)) ?_
                rintro _ w13 ⟨rfl, T9⟩
                have S15 : Sep w [rowOf encI ra rc 3 1 (ls.set (which % (ls.length : Int)).toNat (((ls.getD (which % (ls.length : Int)).toNat 0) + bye) % 65536))] w13 := S14.trans T9
                clear T9 S14
                refine J.head (.tuple #[.int .i64 (ansF question (ls.set (which % (ls.length : Int)).toNat (((ls.getD (which % (ls.length : Int)).toNat 0) + bye) % 65536))), .int .i64 0]) (by first | (simp only [ansV, fk10, fk8, reduceCtorEq, ↓reduceIte]; done) | simp [ansV, fk10, fk8]) ?_
                refine J.run 23 K3_33 [(109, .bool (decide ((ansF question ls) ≥ 0))), (19, .int .i64 (ansF question (ls.set (which % (ls.length : Int)).toNat (((ls.getD (which % (ls.length : Int)).toNat 0) + bye) % 65536)))), (16, .int .i64 (ansF other ls)), (14, .int .i64 (ansF question ls)), (0, .int .u16 question), (1, .int .u16 other)] w13 (by kernel_rfl) ?_
                have fk12 : (ansF question ls) ≥ 0 := (ansF_bounds (by omega) ls).1
                refine J.head (.bool true) (congrArg Value.bool (decide_eq_true fk12)) ?_
                refine J.run 4 K3_34 [(113, .bool (decide ((ansF question ls) ≤ 65535))), (19, .int .i64 (ansF question (ls.set (which % (ls.length : Int)).toNat (((ls.getD (which % (ls.length : Int)).toNat 0) + bye) % 65536)))), (16, .int .i64 (ansF other ls)), (14, .int .i64 (ansF question ls)), (0, .int .u16 question), (1, .int .u16 other)] w13 (by kernel_rfl) ?_
                have fk14 : (ansF question ls) ≤ 65535 := (ansF_bounds (by omega) ls).2
                refine J.head (.bool true) (congrArg Value.bool (decide_eq_true fk14)) ?_
                refine J.run 5 K3_35 [(118, .bool ((ansF question ls) != (ansF question (ls.set (which % (ls.length : Int)).toNat (((ls.getD (which % (ls.length : Int)).toNat 0) + bye) % 65536))))), (16, .int .i64 (ansF other ls)), (14, .int .i64 (ansF question ls)), (0, .int .u16 question), (1, .int .u16 other)] w13 (by kernel_rfl) ?_
                have fk16 : ¬ ((ansF question ls) = (ansF question (ls.set (which % (ls.length : Int)).toNat (((ls.getD (which % (ls.length : Int)).toNat 0) + bye) % 65536)))) := ansF_set ls (which % (ls.length : Int)).toNat (by omega) bye (by omega) (by omega) (by rw [hls2]; exact hpl _)
                refine J.head (.bool true) (congrArg Value.bool (bne_iff_ne.2 fk16)) ?_
                refine J.run 10 K3_36 [(10, .bool (((ansF question ls) == (ansF other ls)) == (question == other)))] w13 (by kernel_rfl) ?_
                refine J.ret Try.f3 [.bool (((ansF question ls) == (ansF other ls)) == (question == other))] Try.func3 ⟨by kernel_rfl, trivial⟩ ?_
                refine hR _ _ ?_
                exact ⟨congrArg Value.bool (ans_iff ls (by omega) (by omega)), S15.nil⟩
            exact L3_1 _ none 0 ([]) 0 w1 (by omega) (by omega) (by simp) (by simp) S7 rfl

end Go.Proofs.Ytjlmkdaeabjeoaa
