/- Walks of functions of this seat, printed by a program over the engine. Conditions: as each theorem says. -/
import Derived.Test.YthfpejhonhaggaaGreatDoorZW19
namespace Go.Proofs.YthfpejhonhaggaaGreatDoor
open Go.Eng Go.RowKit
set_option linter.unusedSimpArgs false
set_option linter.unusedVariables false
theorem atoi_some (s : ByteArray) (w : World) (hs : s.size ≤ 281474976710656) (h : (atM (ls s)).isSome = true) : Ret Tryz.prog 49 #[.string s] w (fun v w' => v = .tuple #[iv ((atM (ls s)).getD 0), .nilIface] ∧ Sep w [] w') := by
  cases hh : Lib.atoiAll (ls s) with
  | ok n =>
    refine Ret.of_calls (Tryz.strconv_Atoi_ok s (by omega) n hh w) fun w' hw => ⟨?_, by rcases hw with rfl | ⟨t, rfl⟩; exact .refl _; exact .of_below (Lib.bytesWorld_below _ _ _)⟩
    unfold atM; rw [hh]; rfl
  | _ => unfold atM at h; rw [hh] at h; cases h
theorem atoi_none (s : ByteArray) (w : World) (hs : s.size ≤ 281474976710656) (h : (atM (ls s)).isSome = false) (hW : TabW w) : Ret Tryz.prog 49 #[.string s] w (fun v w' => ∃ x N, v = .tuple #[iv x, .iface 124 (pv N)] ∧ Sep w [] w') := by
  cases hh : Lib.atoiAll (ls s) with
  | ok n => unfold atM at h; rw [hh] at h; cases h
  | range =>
    obtain ⟨ev, hv, hev⟩ := hW.2.2.1
    exact Calls.mono (Tryz.strconv_Atoi_range s hs hh ev w hv hev) fun e w' ⟨N, he, _, _, hb⟩ => ⟨_, he, _, N, rfl, .of_below hb⟩
  | _ =>
    obtain ⟨ev, hv, hev⟩ := hW.2.1
    exact Calls.mono (Tryz.strconv_Atoi_syntax s hs hh ev w hv hev) fun e w' ⟨N, he, _, _, hb⟩ => ⟨_, he, _, N, rfl, .of_below hb⟩
theorem hb45 : HasBody Tryz.prog 45 := fun _ _ => by kernel_rfl
theorem split32_any (s : ByteArray) (w : World) (hs : s.size < 4294967281) (hW : TabW w) : Ret Tryz.prog 45 #[.string s, .string ⟨#[32]⟩] w (fun v w' => ∃ b, v = .slice (some ⟨b, 0, none⟩) (piecesB 32 s).length (piecesB 32 s).length ∧ Sep w [box b ((piecesB 32 s).map Value.string) 9] w') := by
  obtain ⟨m, hm⟩ := hW.2.2.2
  refine Calls.mono (Tryz.strings_Split s ⟨#[32]⟩ m w hs hm (Nat.le_refl 1)) fun e w' ⟨he, hw⟩ => ?_
  subst he hw
  rw [splitB_len, splitB_pieces]
  exact ⟨_, rfl, _, rfl, Sep.of_alloc _ _ _⟩
theorem hb47 : HasBody Tryz.prog 47 := fun _ _ => by kernel_rfl
noncomputable def K47_0 : List Item := adv 2 [] (bodyOf Tryz.f47)
noncomputable def K47_1 : List Item := adv 3 [] (popK K47_0)
set_option maxRecDepth 20000 in
set_option maxHeartbeats 20000000 in
theorem parse1_any (r : Rwo) (bx : Nat) (pa : Option Addr) (pn pc : Nat) (l : List ByteArray) (w : World) (hI : Ones Value.string w pa pn l) (hpn : 0 < pn) (hb : (box bx [.slice pa pn pc] 79).holds w) : Ret Tryz.prog 47 #[.agg (rwoA r), pv bx] w (fun v w' => v = .bool (r.gname.toList == (l.getD 0 ByteArray.empty).toList) ∧ Sep w [] w') := by
 have S0 := Sep.refl w
 refine Ret.named fun R hR => ?_
 refine Ret.of_J (N := 10) [(0, .agg (rwoA r)), (1, pv bx)] Tryz.func47 rfl rfl (Nat.le_of_ble_eq_true (by kernel_rfl)) (by kernel_rfl) ?_
 refine J.run 2 K47_0 [(0, .agg (rwoA r)), (1, pv bx)] w (by kernel_rfl) ?_
 refine J.new S0 2 (rwoC r) 74 (by kernel_rfl) ?_
 intro b1 w1 S1
 refine J.run 3 K47_1 [(2, pv b1), (1, pv bx)] w1 (by kernel_rfl) ?_
 obtain ⟨p1, hp1, hc1⟩ := hI.at ByteArray.empty 0 (by omega)
 refine J.drawStill S1 7 Tryz.mixed (by kernel_rfl) (by kernel_rfl) (by kernel_rfl) ?_
 intro w2 S2
 refine SL.ok (by decide) (OK.run 4 (pv b1) (by kernel_rfl)) ?_
 refine SL.ok (by decide) (OK.ldBox S2 0 5 9 0 (.string r.gname) (by kernel_rfl) rfl (by kernel_rfl)) ?_
 refine SL.ok (by decide) (OK.ldRo S2 hb 6 79 0 (.slice pa pn pc) (by kernel_rfl) (by kernel_rfl)) ?_
 refine SL.ok (by decide) (OK.index 7 79 1 pa p1 pn 0 0 (p1.add 0) (by kernel_rfl) (by kernel_rfl) hp1 (by omega) (by omega) (by rw [Nat.mul_one])) ?_
 refine SL.ok (by decide) (OK.ldCell 8 9 (p1.add 0) (.string (l.getD 0 ByteArray.empty)) (by kernel_rfl) (by kernel_rfl) (S2.cell hc1)) ?_
 refine SL.ok (by decide) (OK.run 9 (.bool (r.gname.toList == (l.getD 0 ByteArray.empty).toList)) (by kernel_rfl)) ?_
 refine SL.ok (by decide) (OK.run 3 (.bool (r.gname.toList == (l.getD 0 ByteArray.empty).toList)) (by kernel_rfl)) ?_
 refine SL.done ?_
 refine TL.done (by kernel_rfl) ?_
 refine J.run 0 (rRest K47_1) [(3, .bool (r.gname.toList == (l.getD 0 ByteArray.empty).toList))] w2 (by kernel_rfl) ?_
 refine J.ret Tryz.f47 [.bool (r.gname.toList == (l.getD 0 ByteArray.empty).toList)] Tryz.func47 ⟨by kernel_rfl, trivial⟩ ?_
 refine hR _ _ ?_
 exact ⟨rfl, S2.nil⟩

theorem hb46 : HasBody Tryz.prog 46 := fun _ _ => by kernel_rfl
noncomputable def K46_0 : List Item := adv 13 [] (bodyOf Tryz.f46)
noncomputable def K46_1 : List Item := adv 5 [] K46_0
noncomputable def K46_2 : List Item := adv 14 [true] K46_1
noncomputable def K46_3 : List Item := adv 1 [] (popK (popK (popK K46_2)))
noncomputable def K46_4 : List Item := adv 6 [true] K46_3
noncomputable def K46_5 : List Item := adv 5 [false] K46_3
noncomputable def K46_6 : List Item := adv 6 [false] K46_1
set_option maxRecDepth 20000 in
set_option maxHeartbeats 20000000 in
theorem indexRW1 (la : Option Addr) (len cap : Nat) (l : List Rwo) (g : FuncId) (c1 : Value) (q : Rwo → Bool) (w : World) (hI : Recs rwoE 3 w la len l) (hlen : len ≤ 9223372036854775807) (hbg : HasBody Tryz.prog g) (hcall : ∀ (i : Nat) (w2 : World), i < l.length → Sep w [] w2 → Ret Tryz.prog g #[.agg (rwoA (l.getD i rwo0)), c1] w2 (fun v w3 => v = .bool (q (l.getD i rwo0)) ∧ Sep w2 [] w3)) : Ret Tryz.prog 46 #[.slice la len cap, .func (.func g) #[] #[c1]] w (fun v w' => v = iv (indexF q l) ∧ Sep w [] w') := by
 have S0 := Sep.refl w
 refine Ret.named fun R hR => ?_
 refine Ret.of_J (N := 19) [(0, .slice la len cap), (1, .func (.func g) #[] #[c1])] Tryz.func46 rfl rfl (Nat.le_of_ble_eq_true (by kernel_rfl)) (by kernel_rfl) ?_
 refine J.run 13 K46_0 [(8, iv 0), (7, iv (len : Int)), (0, .slice la len cap), (1, .func (.func g) #[] #[c1])] w (by kernel_rfl) ?_
 have L46_1 : ∀ (mm_ : Nat) (i : Int) (w1 : World), (0 ≤ i) → (i ≤ (len : Int)) → (∀ j, j < (i).toNat → q (l.getD j rwo0) = false) → Sep w [] w1 → ((len : Int) - i).toNat = mm_ → J Tryz.prog 46 19 R K46_0 [(8, iv i), (7, iv (len : Int)), (0, .slice la len cap), (1, .func (.func g) #[] #[c1])] w1 := by
  intro mm1
  induction mm1 using Nat.strongRecOn with
  | _ mm1 ih1 =>
  intro i w1 h0 h1 hq S1 hm1
  refine J.run 5 K46_1 [(9, .bool (decide (i < (len : Int)))), (8, iv i), (7, iv (len : Int)), (0, .slice la len cap), (1, .func (.func g) #[] #[c1])] w1 (by kernel_rfl) ?_
  by_cases fk1 : i < (len : Int)
  ·skip
   refine J.head (.bool true) (congrArg Value.bool (decide_eq_true fk1)) ?_
   refine J.run 14 K46_2 [(13, iv i), (12, .slice la len cap), (11, .func (.func g) #[] #[c1]), (5, iv i), (8, iv i), (7, iv (len : Int)), (0, .slice la len cap), (1, .func (.func g) #[] #[c1])] w1 (by kernel_rfl) ?_
   obtain ⟨p1, hp1, hc1⟩ := hI.at rwo0 (i).toNat (by omega)
   refine J.ok (OK.index 14 75 3 la p1 len (i).toNat i (p1.add ((i).toNat * 3)) (by kernel_rfl) (by kernel_rfl) hp1 (by omega) (by omega) rfl) ?_
   refine J.ok (OK.ldCells 15 74 (p1.add ((i).toNat * 3)) (rwoC (l.getD (i).toNat rwo0)) (by kernel_rfl) (by kernel_rfl) (by kernel_rfl) (fun j_ v_ hj_ => S1.cell (hc1 j_ v_ hj_))) ?_
   refine J.callF 16 g #[.agg (rwoA (l.getD (i).toNat rwo0)), c1] hbg (by kernel_rfl) (hcall (i).toNat w1 (by have := hI.len_eq; omega) S1.nil) ?_
   rintro _ w2 ⟨rfl, T1⟩
   have S2 : Sep w [] w2 := S1.trans T1
   clear T1 S1
   refine J.run 1 K46_3 [(16, .bool (q (l.getD (i).toNat rwo0))), (5, iv i), (8, iv i), (7, iv (len : Int)), (0, .slice la len cap), (1, .func (.func g) #[] #[c1])] w2 (by kernel_rfl) ?_
   rcases Bool.eq_false_or_eq_true (q (l.getD (i).toNat rwo0)) with fk2 | fk2
   ·skip
    refine J.head (.bool true) (congrArg Value.bool fk2) ?_
    refine J.run 6 K46_4 [(4, iv i)] w2 (by kernel_rfl) ?_
    refine J.ret Tryz.f46 [iv i] Tryz.func46 ⟨by kernel_rfl, trivial⟩ ?_
    refine hR _ _ ?_
    exact ⟨by rw [tup_one, indexF_some rwo0 i.toNat (by have := hI.len_eq; omega) hq fk2, Int.toNat_of_nonneg h0], S2.nil⟩
   ·skip
    refine J.head (.bool false) (congrArg Value.bool fk2) ?_
    refine J.run 5 K46_5 [(18, iv (IntKind.wrap .i64 (i + 1))), (7, iv (len : Int)), (0, .slice la len cap), (1, .func (.func g) #[] #[c1])] w2 (by kernel_rfl) ?_
    refine J.head (iv (i + 1)) (congrArg (Value.int .i64) (IntWalk.i64_in _ (by omega))) ?_
    refine J.run 3 K46_0 [(8, iv (i + 1)), (7, iv (len : Int)), (0, .slice la len cap), (1, .func (.func g) #[] #[c1])] w2 (by kernel_rfl) ?_
    refine J.run 0 K46_0 [(8, iv (i + 1)), (7, iv (len : Int)), (0, .slice la len cap), (1, .func (.func g) #[] #[c1])] w2 (by kernel_rfl) ?_
    exact ih1 _ (show ((len : Int) - (i + 1)).toNat < mm1 from by omega) (i + 1) w2 (by omega) (by omega) (by intro j hj; by_cases e : j = i.toNat; (subst e; exact fk2); exact hq j (by omega)) S2 rfl
  ·skip
   refine J.head (.bool false) (congrArg Value.bool (decide_eq_false fk1)) ?_
   refine J.run 6 K46_6 [(4, iv (-1))] w1 (by kernel_rfl) ?_
   refine J.ret Tryz.f46 [iv (-1)] Tryz.func46 ⟨by kernel_rfl, trivial⟩ ?_
   refine hR _ _ ?_
   exact ⟨by rw [tup_one, indexF_none rwo0 fun j hj => hq j (by have := hI.len_eq; omega)], S1.nil⟩
 exact L46_1 _ 0 w (by omega) (by omega) (by intro j hj; simp at hj) S0 rfl

end Go.Proofs.YthfpejhonhaggaaGreatDoor

