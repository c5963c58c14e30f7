/- Walks of functions of this seat, printed by a program over the engine. Conditions: as each theorem says. -/
import Derived.Test.YthfpejhonhaggaaDoorW7
namespace Go.Proofs.YthfpejhonhaggaaDoor
open Go.Eng Go.RowKit
set_option linter.unusedSimpArgs false
set_option linter.unusedVariables false
theorem atoi_some (s : ByteArray) (w : World) (hs : s.size ≤ 281474976710656) (h : (atM (ls s)).isSome = true) : Ret Tryd.prog 26 #[.string s] w (fun v w' => v = .tuple #[.int .i64 ((atM (ls s)).getD 0), .nilIface] ∧ Sep w [] w') := by
  cases hh : Lib.atoiAll (ls s) with
  | ok n =>
    refine Ret.of_calls (Tryd.strconv_Atoi_ok s (by omega) n hh w) fun w' hw => ⟨?_, by rcases hw with rfl | ⟨t, rfl⟩; exact .refl _; exact .of_below (Lib.bytesWorld_below _ _ _)⟩
    unfold atM; rw [hh]; rfl
  | _ => unfold atM at h; rw [hh] at h; cases h
theorem atoi_none (s : ByteArray) (w : World) (hs : s.size ≤ 281474976710656) (h : (atM (ls s)).isSome = false) (hW : TabW w) : Ret Tryd.prog 26 #[.string s] w (fun v w' => ∃ x N, v = .tuple #[.int .i64 x, .iface 77 (.pointer (some ⟨N, 0, none⟩))] ∧ Sep w [] w') := by
  cases hh : Lib.atoiAll (ls s) with
  | ok n => unfold atM at h; rw [hh] at h; cases h
  | range =>
    obtain ⟨ev, hv, hev⟩ := hW.2.2.1
    exact Calls.mono (Tryd.strconv_Atoi_range s hs hh ev w hv hev) fun e w' ⟨N, he, _, _, hb⟩ => ⟨_, he, _, N, rfl, .of_below hb⟩
  | _ =>
    obtain ⟨ev, hv, hev⟩ := hW.2.1
    exact Calls.mono (Tryd.strconv_Atoi_syntax s hs hh ev w hv hev) fun e w' ⟨N, he, _, _, hb⟩ => ⟨_, he, _, N, rfl, .of_below hb⟩
theorem hb22 : HasBody Tryd.prog 22 := fun _ _ => by kernel_rfl
theorem split32_any (s : ByteArray) (w : World) (hs : s.size < 4294967281) (hW : TabW w) : Ret Tryd.prog 22 #[.string s, .string ⟨#[32]⟩] w (fun v w' => ∃ b, v = .slice (some ⟨b, 0, none⟩) (piecesB 32 s).length (piecesB 32 s).length ∧ Sep w [box b ((piecesB 32 s).map Value.string) 9] w') := by
  obtain ⟨m, hm⟩ := hW.2.2.2
  refine Calls.mono (Tryd.strings_Split s ⟨#[32]⟩ m w hs hm (Nat.le_refl 1)) fun e w' ⟨he, hw⟩ => ?_
  subst he hw
  rw [splitB_len, splitB_pieces]
  exact ⟨_, rfl, _, rfl, Sep.of_alloc _ _ _⟩
theorem hb24 : HasBody Tryd.prog 24 := fun _ _ => by kernel_rfl
noncomputable def K24_0 : List Item := adv 2 [] (bodyOf Tryd.f24)
noncomputable def K24_1 : List Item := adv 3 [] (popK K24_0)
set_option maxRecDepth 20000 in
set_option maxHeartbeats 20000000 in
theorem parse1_any (r : Rwo) (bx : Nat) (pa : Option Addr) (pn pc : Nat) (l : List ByteArray) (w : World) (hI : Ones Value.string w pa pn l) (hpn : 0 < pn) (hb : (box bx [.slice pa pn pc] 52).holds w) : Ret Tryd.prog 24 #[.agg #[.string r.gname, .string r.gfields, .int .i64 r.gcost], .pointer (some ⟨bx, 0, none⟩)] w (fun v w' => v = .bool (r.gname.toList == (l.getD 0 ByteArray.empty).toList) ∧ Sep w [] w') := by
 have S0 := Sep.refl w
 refine Ret.named fun R hR => ?_
 refine Ret.of_J (N := 10) [(0, .agg #[.string r.gname, .string r.gfields, .int .i64 r.gcost]), (1, .pointer (some ⟨bx, 0, none⟩))] Tryd.func24 rfl rfl (Nat.le_of_ble_eq_true (by kernel_rfl)) (by kernel_rfl) ?_
 refine J.run 2 K24_0 [(0, .agg #[.string r.gname, .string r.gfields, .int .i64 r.gcost]), (1, .pointer (some ⟨bx, 0, none⟩))] w (by kernel_rfl) ?_
 refine J.new S0 2 [.string r.gname, .string r.gfields, .int .i64 r.gcost] 43 (by kernel_rfl) ?_
 intro b1 w1 S1
 refine J.run 3 K24_1 [(2, .pointer (some ⟨b1, 0, none⟩)), (1, .pointer (some ⟨bx, 0, none⟩))] w1 (by kernel_rfl) ?_
 obtain ⟨p1, hp1, hc1⟩ := hI.at ByteArray.empty 0 (by omega)
 refine J.drawStill S1 7 Tryd.mixed (by kernel_rfl) (by kernel_rfl) (by kernel_rfl) ?_
 intro w2 S2
 refine SL.ok (by decide) (OK.run 4 (.pointer (some ⟨b1, 0, none⟩)) (by kernel_rfl)) ?_
 refine SL.ok (by decide) (OK.ldBox S2 0 5 9 0 (.string r.gname) (by kernel_rfl) rfl (by kernel_rfl)) ?_
 refine SL.ok (by decide) (OK.ldRo S2 hb 6 52 0 (.slice pa pn pc) (by kernel_rfl) (by kernel_rfl)) ?_
 refine SL.ok (by decide) (OK.index 7 52 1 pa p1 pn 0 0 (p1.add 0) (by kernel_rfl) (by kernel_rfl) hp1 (by omega) (by omega) (by rw [Nat.mul_one])) ?_
 refine SL.ok (by decide) (OK.ldCell 8 9 (p1.add 0) (.string (l.getD 0 ByteArray.empty)) (by kernel_rfl) (by kernel_rfl) (S2.cell hc1)) ?_
 refine SL.ok (by decide) (OK.run 9 (.bool (r.gname.toList == (l.getD 0 ByteArray.empty).toList)) (by kernel_rfl)) ?_
 refine SL.ok (by decide) (OK.run 3 (.bool (r.gname.toList == (l.getD 0 ByteArray.empty).toList)) (by kernel_rfl)) ?_
 refine SL.done ?_
 refine TL.done (by kernel_rfl) ?_
 refine J.run 0 (rRest K24_1) [(3, .bool (r.gname.toList == (l.getD 0 ByteArray.empty).toList))] w2 (by kernel_rfl) ?_
 refine J.ret Tryd.f24 [.bool (r.gname.toList == (l.getD 0 ByteArray.empty).toList)] Tryd.func24 ⟨by kernel_rfl, trivial⟩ ?_
 refine hR _ _ ?_
 exact ⟨rfl, S2.nil⟩

theorem hb23 : HasBody Tryd.prog 23 := fun _ _ => by kernel_rfl
noncomputable def K23_0 : List Item := adv 13 [] (bodyOf Tryd.f23)
noncomputable def K23_1 : List Item := adv 5 [] K23_0
noncomputable def K23_2 : List Item := adv 14 [true] K23_1
noncomputable def K23_3 : List Item := adv 1 [] (popK (popK (popK K23_2)))
noncomputable def K23_4 : List Item := adv 6 [true] K23_3
noncomputable def K23_5 : List Item := adv 5 [false] K23_3
noncomputable def K23_6 : List Item := adv 6 [false] K23_1
set_option maxRecDepth 20000 in
set_option maxHeartbeats 20000000 in
theorem indexRW1 (la : Option Addr) (len cap : Nat) (l : List Rwo) (g : FuncId) (c1 : Value) (q : Rwo → Bool) (w : World) (hI : Recs rwoE 3 w la len l) (hlen : len ≤ 9223372036854775807) (hbg : HasBody Tryd.prog g) (hcall : ∀ (i : Nat) (w2 : World), i < l.length → Sep w [] w2 → Ret Tryd.prog g #[.agg #[.string ((l.getD i rwo0).gname), .string ((l.getD i rwo0).gfields), .int .i64 ((l.getD i rwo0).gcost)], c1] w2 (fun v w3 => v = .bool (q (l.getD i rwo0)) ∧ Sep w2 [] w3)) : Ret Tryd.prog 23 #[.slice la len cap, .func (.func g) #[] #[c1]] w (fun v w' => v = .int .i64 (indexF q l) ∧ Sep w [] w') := by
 have S0 := Sep.refl w
 refine Ret.named fun R hR => ?_
 refine Ret.of_J (N := 19) [(0, .slice la len cap), (1, .func (.func g) #[] #[c1])] Tryd.func23 rfl rfl (Nat.le_of_ble_eq_true (by kernel_rfl)) (by kernel_rfl) ?_
 refine J.run 13 K23_0 [(8, .int .i64 0), (7, .int .i64 (len : Int)), (0, .slice la len cap), (1, .func (.func g) #[] #[c1])] w (by kernel_rfl) ?_
 have L23_1 : ∀ (mm_ : Nat) (i : Int) (w1 : World), (0 ≤ i) → (i ≤ (len : Int)) → (∀ j, j < (i).toNat → q (l.getD j rwo0) = false) → Sep w [] w1 → ((len : Int) - i).toNat = mm_ → J Tryd.prog 23 19 R K23_0 [(8, .int .i64 i), (7, .int .i64 (len : Int)), (0, .slice la len cap), (1, .func (.func g) #[] #[c1])] w1 := by
  intro mm1
  induction mm1 using Nat.strongRecOn with
  | _ mm1 ih1 =>
  intro i w1 h0 h1 hq S1 hm1
  refine J.run 5 K23_1 [(9, .bool (decide (i < (len : Int)))), (8, .int .i64 i), (7, .int .i64 (len : Int)), (0, .slice la len cap), (1, .func (.func g) #[] #[c1])] w1 (by kernel_rfl) ?_
  by_cases fk1 : i < (len : Int)
  ·skip
   refine J.head (.bool true) (congrArg Value.bool (decide_eq_true fk1)) ?_
   refine J.run 14 K23_2 [(13, .int .i64 i), (12, .slice la len cap), (11, .func (.func g) #[] #[c1]), (5, .int .i64 i), (8, .int .i64 i), (7, .int .i64 (len : Int)), (0, .slice la len cap), (1, .func (.func g) #[] #[c1])] w1 (by kernel_rfl) ?_
   obtain ⟨p1, hp1, hc1⟩ := hI.at rwo0 (i).toNat (by omega)
   refine J.ok (OK.index 14 44 3 la p1 len (i).toNat i (p1.add ((i).toNat * 3)) (by kernel_rfl) (by kernel_rfl) hp1 (by omega) (by omega) rfl) ?_
   refine J.ok (OK.ldCells 15 43 (p1.add ((i).toNat * 3)) [.string ((l.getD (i).toNat rwo0).gname), .string ((l.getD (i).toNat rwo0).gfields), .int .i64 ((l.getD (i).toNat rwo0).gcost)] (by kernel_rfl) (by kernel_rfl) (by kernel_rfl) (fun j_ v_ hj_ => S1.cell (hc1 j_ v_ hj_))) ?_
   refine J.callF 16 g #[.agg #[.string ((l.getD (i).toNat rwo0).gname), .string ((l.getD (i).toNat rwo0).gfields), .int .i64 ((l.getD (i).toNat rwo0).gcost)], c1] hbg (by kernel_rfl) (hcall (i).toNat w1 (by have := hI.len_eq; omega) S1.nil) ?_
   rintro _ w2 ⟨rfl, T1⟩
   have S2 : Sep w [] w2 := S1.trans T1
   clear T1 S1
   refine J.run 1 K23_3 [(16, .bool (q (l.getD (i).toNat rwo0))), (5, .int .i64 i), (8, .int .i64 i), (7, .int .i64 (len : Int)), (0, .slice la len cap), (1, .func (.func g) #[] #[c1])] w2 (by kernel_rfl) ?_
   rcases Bool.eq_false_or_eq_true (q (l.getD (i).toNat rwo0)) with fk2 | fk2
   ·skip
    refine J.head (.bool true) (congrArg Value.bool fk2) ?_
    refine J.run 6 K23_4 [(4, .int .i64 i)] w2 (by kernel_rfl) ?_
    refine J.ret Tryd.f23 [.int .i64 i] Tryd.func23 ⟨by kernel_rfl, trivial⟩ ?_
    refine hR _ _ ?_
    exact ⟨by rw [tup_one, indexF_some rwo0 i.toNat (by have := hI.len_eq; omega) hq fk2, Int.toNat_of_nonneg h0], S2.nil⟩
   ·skip
    refine J.head (.bool false) (congrArg Value.bool fk2) ?_
    refine J.run 5 K23_5 [(18, .int .i64 (IntKind.wrap .i64 (i + 1))), (7, .int .i64 (len : Int)), (0, .slice la len cap), (1, .func (.func g) #[] #[c1])] w2 (by kernel_rfl) ?_
    refine J.head (.int .i64 (i + 1)) (congrArg (Value.int .i64) (IntWalk.i64_in _ (by omega))) ?_
    refine J.run 3 K23_0 [(8, .int .i64 (i + 1)), (7, .int .i64 (len : Int)), (0, .slice la len cap), (1, .func (.func g) #[] #[c1])] w2 (by kernel_rfl) ?_
    refine J.run 0 K23_0 [(8, .int .i64 (i + 1)), (7, .int .i64 (len : Int)), (0, .slice la len cap), (1, .func (.func g) #[] #[c1])] w2 (by kernel_rfl) ?_
    exact ih1 _ (show ((len : Int) - (i + 1)).toNat < mm1 from by omega) (i + 1) w2 (by omega) (by omega) (by intro j hj; by_cases e : j = i.toNat; (subst e; exact fk2); exact hq j (by omega)) S2 rfl
  ·skip
   refine J.head (.bool false) (congrArg Value.bool (decide_eq_false fk1)) ?_
   refine J.run 6 K23_6 [(4, .int .i64 (-1))] w1 (by kernel_rfl) ?_
   refine J.ret Tryd.f23 [.int .i64 (-1)] Tryd.func23 ⟨by kernel_rfl, trivial⟩ ?_
   refine hR _ _ ?_
   exact ⟨by rw [tup_one, indexF_none rwo0 fun j hj => hq j (by have := hI.len_eq; omega)], S1.nil⟩
 exact L23_1 _ 0 w (by omega) (by omega) (by intro j hj; simp at hj) S0 rfl

end Go.Proofs.YthfpejhonhaggaaDoor
