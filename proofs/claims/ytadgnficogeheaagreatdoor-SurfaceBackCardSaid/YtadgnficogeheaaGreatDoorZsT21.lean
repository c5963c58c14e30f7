/- Walks of functions of this seat, printed by a program over the engine. Conditions: as each theorem says. -/
import Derived.Test.YtadgnficogeheaaGreatDoorZsT20
namespace Go.Proofs.YtadgnficogeheaaGreatDoor
noncomputable section
open Go.Eng Go.RowKit
set_option linter.unusedSimpArgs false
set_option linter.unusedVariables false
theorem hb6 : HasBody Tryz.prog 6 := fun _ _ => by kernel_rfl
def K6_0 := adv 2 [] (bodyOf Tryz.f6)
def K6_1 := adv 9 [] (popK K6_0)
def K6_2 := adv 4 [true] K6_1
def K6_3 := adv 2 [] (popK K6_2)
def K6_4 := adv 5 [false] K6_1
def K6_5 := adv 9 [] (popK K6_4)
def K6_6 := adv 8 [] (popK K6_5)
def K6_7 := adv 5 [] K6_6
def K6_8 := adv 4 [true] K6_7
def K6_9 := adv 2 [] (popK K6_8)
def K6_10 := adv 4 [false] K6_7
def K6_11 := adv 10 [] (popK K6_10)
def K6_12 := adv 5 [] K6_11
def K6_13 := adv 7 [true] K6_12
def K6_14 := adv 2 [] (popK (popK K6_13))
def K6_15 := adv 11 [] K6_14
def K6_16 := adv 4 [true] K6_15
def K6_17 := adv 7 [] K6_16
def K6_18 := adv 12 [] (popK K6_17)
def K6_19 := adv 12 [false] K6_18
def K6_20 := adv 4 [true] K6_19
def K6_21 := adv 5 [] (popK K6_20)
def K6_22 := adv 4 [true] K6_18
def K6_23 := adv 2 [] (popK K6_22)
def K6_24 := adv 4 [true] K6_15
def K6_25 := adv 7 [] K6_24
def K6_26 := adv 12 [] (popK K6_25)
def K6_27 := adv 12 [false] K6_26
def K6_28 := adv 6 [false] K6_27
def K6_29 := adv 4 [true] K6_28
def K6_30 := adv 5 [] (popK K6_29)
def K6_31 := adv 4 [true] K6_26
def K6_32 := adv 2 [] (popK K6_31)
def K6_33 := adv 6 [false] K6_15
def K6_34 := adv 12 [] (popK K6_33)
def K6_35 := adv 12 [false] K6_34
def K6_36 := adv 6 [false] K6_35
def K6_37 := adv 3 [false] K6_36
def K6_38 := adv 1 [] (popK K6_37)
def K6_39 := adv 1 [] (popK (popK K6_38))
def K6_40 := adv 5 [] (popK K6_39)
def K6_41 := adv 4 [true] K6_34
def K6_42 := adv 2 [] (popK K6_41)
def K6_43 := adv 5 [false] K6_12
def K6_44 := adv 2 [] (popK (popK K6_43))
def K6_45 := adv 4 [false] K6_44
def K6_46 := adv 2 [] (popK (popK K6_45))
def K6_47 := adv 4 [true] K6_44
def K6_48 := adv 2 [] (popK K6_47)
def K6_49 := adv 9 [true] K6_6
def K6_50 := adv 2 [] (popK K6_49)
set_option maxRecDepth 20000 in
set_option maxHeartbeats 20000000 in
theorem parse6_any (s : ByteArray) (w : World) (hs : s.size ≤ 9223372036854775807) (hW : TabW w) : Ret Tryz.prog 6 #[.string s] w (P6Post s w) := by
 have S0 := Sep.refl w
 refine Ret.named fun R hR => ?_
 refine Ret.of_J (N := 74) [(0, .string s)] Tryz.func6 rfl rfl (Nat.le_of_ble_eq_true (by kernel_rfl)) (by kernel_rfl) ?_
 have hbz := body_size s
 refine J.run 2 K6_0 [(0, .string s)] w (by kernel_rfl) ?_
 refine J.new S0 2 [.slice none 0 0, .slice none 0 0, .slice none 0 0] 25 (by kernel_rfl) ?_
 intro b1 w1 S1
 refine J.run 9 K6_1 [(15, .bool (decide ((s.size : Int) > 16384))), (2, .pointer (some ⟨b1, 0, none⟩)), (0, .string s)] w1 (by kernel_rfl) ?_
 by_cases fk1 : (s.size : Int) > 16384
 ·skip
  refine J.head (.bool true) (congrArg Value.bool (decide_eq_true fk1)) ?_
  refine J.run 4 K6_2 [(16, .agg #[.slice none 0 0, .slice none 0 0, .slice none 0 0]), (2, .pointer (some ⟨b1, 0, none⟩))] w1 (by kernel_rfl) ?_
  refine J.stBox S1 0 25 0 (.agg #[.slice none 0 0, .slice none 0 0, .slice none 0 0]) [.slice none 0 0, .slice none 0 0, .slice none 0 0] [box b1 [.slice none 0 0, .slice none 0 0, .slice none 0 0] 25] (by kernel_rfl) rfl (by kernel_rfl) (by kernel_rfl) rfl ?_
  intro w2 S2
  refine J.run 2 K6_3 [(3, iv 5), (2, .pointer (some ⟨b1, 0, none⟩))] w2 (by kernel_rfl) ?_
  refine J.ret Tryz.f6 [.agg #[.slice none 0 0, .slice none 0 0, .slice none 0 0], iv 5] Tryz.func6 ⟨⟨⟨b1, 0, none⟩, by kernel_rfl, ldV_run (S2.nth 0 rfl) (by kernel_rfl)⟩, by kernel_rfl, trivial⟩ ?_
  refine hR _ _ ?_
  exact bad6 (pr5 (by omega)) (by decide) S2
 refine J.head (.bool false) (congrArg Value.bool (decide_eq_false fk1)) ?_
 refine J.run 5 K6_4 [(18, .string s), (2, .pointer (some ⟨b1, 0, none⟩))] w1 (by kernel_rfl) ?_
 refine J.callF 19 16 #[.string s, .string ⟨#[10]⟩] hb16 (by kernel_rfl) (cutsfx_any s _ (by omega)) ?_
 rintro _ w3 ⟨rfl, T1⟩
 have S3 : Sep w [box b1 [.slice none 0 0, .slice none 0 0, .slice none 0 0] 25] w3 := S1.trans T1
 clear T1 S1
 refine J.run 9 K6_5 [(22, .string (bodyB s)), (5, .bool (sfxB s)), (2, .pointer (some ⟨b1, 0, none⟩))] w3 (by kernel_rfl) ?_
 refine J.callF 23 17 #[.string (bodyB s), .string ⟨#[10]⟩] hb17 (by kernel_rfl) (split10_any (bodyB s) _ (by omega) (tabW_sep hW S3)) ?_
 rintro _ w4 ⟨b2, rfl, T2⟩
 have S4 : Sep w [box b2 ((piecesB 10 (bodyB s)).map Value.string) 9, box b1 [.slice none 0 0, .slice none 0 0, .slice none 0 0] 25] w4 := S3.trans T2
 clear T2
 have := splitOn_bound 10 (ls (bodyB s)); have := pieces_len 10 (bodyB s); have := ls_length (bodyB s)
 generalize hPz : piecesB 10 (bodyB s) = Pz at *
 have hPl : lnsB s = Pz := hPz
 refine J.run 8 K6_6 [(26, .bool (!(sfxB s))), (6, .slice (some ⟨b2, 0, none⟩) Pz.length Pz.length), (2, .pointer (some ⟨b1, 0, none⟩))] w4 (by kernel_rfl) ?_
 rcases Bool.eq_false_or_eq_true (sfxB s) with fk2 | fk2
 rotate_left
 ·skip
  refine J.head (.bool true) (congrArg Value.bool (by rw [fk2]; rfl)) ?_
  refine J.run 9 K6_49 [(31, .agg #[.slice none 0 0, .slice none 0 0, .slice none 0 0]), (2, .pointer (some ⟨b1, 0, none⟩))] w4 (by kernel_rfl) ?_
  refine J.stBox S4 1 25 0 (.agg #[.slice none 0 0, .slice none 0 0, .slice none 0 0]) [.slice none 0 0, .slice none 0 0, .slice none 0 0] [box b2 (Pz.map Value.string) 9, box b1 [.slice none 0 0, .slice none 0 0, .slice none 0 0] 25] (by kernel_rfl) rfl (by kernel_rfl) (by kernel_rfl) rfl ?_
  intro w22 S38
  refine J.run 2 K6_50 [(3, iv 3), (2, .pointer (some ⟨b1, 0, none⟩))] w22 (by kernel_rfl) ?_
  refine J.ret Tryz.f6 [.agg #[.slice none 0 0, .slice none 0 0, .slice none 0 0], iv 3] Tryz.func6 ⟨⟨⟨b1, 0, none⟩, by kernel_rfl, ldV_run (S38.nth 1 rfl) (by kernel_rfl)⟩, by kernel_rfl, trivial⟩ ?_
  refine hR _ _ ?_
  exact bad6 (pr3 (by omega) (.inl fk2)) (by decide) S38
 refine J.head (.bool false) (congrArg Value.bool (by rw [fk2]; rfl)) ?_
 have hsf := fk2
 refine J.run 5 K6_7 [(30, .bool (decide ((Pz.length : Int) < 3))), (6, .slice (some ⟨b2, 0, none⟩) Pz.length Pz.length), (2, .pointer (some ⟨b1, 0, none⟩))] w4 (by kernel_rfl) ?_
 by_cases fk3 : (Pz.length : Int) < 3
 ·skip
  refine J.head (.bool true) (congrArg Value.bool (decide_eq_true fk3)) ?_
  refine J.run 4 K6_8 [(31, .agg #[.slice none 0 0, .slice none 0 0, .slice none 0 0]), (2, .pointer (some ⟨b1, 0, none⟩))] w4 (by kernel_rfl) ?_
  refine J.stBox S4 1 25 0 (.agg #[.slice none 0 0, .slice none 0 0, .slice none 0 0]) [.slice none 0 0, .slice none 0 0, .slice none 0 0] [box b2 (Pz.map Value.string) 9, box b1 [.slice none 0 0, .slice none 0 0, .slice none 0 0] 25] (by kernel_rfl) rfl (by kernel_rfl) (by kernel_rfl) rfl ?_
  intro w5 S5
  refine J.run 2 K6_9 [(3, iv 3), (2, .pointer (some ⟨b1, 0, none⟩))] w5 (by kernel_rfl) ?_
  refine J.ret Tryz.f6 [.agg #[.slice none 0 0, .slice none 0 0, .slice none 0 0], iv 3] Tryz.func6 ⟨⟨⟨b1, 0, none⟩, by kernel_rfl, ldV_run (S5.nth 1 rfl) (by kernel_rfl)⟩, by kernel_rfl, trivial⟩ ?_
  refine hR _ _ ?_
  exact bad6 (pr3 (by omega) (.inr (by rw [hPl]; omega))) (by decide) S5
 refine J.head (.bool false) (congrArg Value.bool (decide_eq_false fk3)) ?_
 refine J.run 4 K6_10 [(6, .slice (some ⟨b2, 0, none⟩) Pz.length Pz.length), (2, .pointer (some ⟨b1, 0, none⟩))] w4 (by kernel_rfl) ?_
 refine J.new S4 7 [.slice none 0 0, .slice none 0 0, .slice none 0 0] 25 (by kernel_rfl) ?_
 intro b3 w6 S6
 refine J.run 10 K6_11 [(34, iv 0), (33, iv (Pz.length : Int)), (32, .slice (some ⟨b2, 0, none⟩) Pz.length Pz.length), (7, .pointer (some ⟨b3, 0, none⟩)), (2, .pointer (some ⟨b1, 0, none⟩))] w6 (by kernel_rfl) ?_
 have S7 : Sep w (box b3 [.slice none 0 0, .slice none 0 0, .slice none 0 0] 25 :: box b2 (Pz.map Value.string) 9 :: box b1 [.slice none 0 0, .slice none 0 0, .slice none 0 0] 25 :: tlR ([])) w6 := S6
 have S8 : Sep w (rowOf Eng.encI none 0 3 1 ([]) :: box b3 [.slice none 0 0, .slice none 0 0, .slice none 0 0] 25 :: box b2 (Pz.map Value.string) 9 :: box b1 [.slice none 0 0, .slice none 0 0, .slice none 0 0] 25 :: tlR ([])) w6 := S7.nilRow 3 1
 have S9 : Sep w (rowOf Eng.encI none 0 3 1 ([]) :: rowOf Eng.encI none 0 3 1 ([]) :: box b3 [.slice none 0 0, .slice none 0 0, .slice none 0 0] 25 :: box b2 (Pz.map Value.string) 9 :: box b1 [.slice none 0 0, .slice none 0 0, .slice none 0 0] 25 :: tlR ([])) w6 := S8.nilRow 3 1
 have S10 : Sep w (rowOf rwE none 0 22 1 ([]) :: rowOf Eng.encI none 0 3 1 ([]) :: rowOf Eng.encI none 0 3 1 ([]) :: box b3 [.slice none 0 0, .slice none 0 0, .slice none 0 0] 25 :: box b2 (Pz.map Value.string) 9 :: box b1 [.slice none 0 0, .slice none 0 0, .slice none 0 0] 25 :: tlR ([])) w6 := S9.nilRow 22 1
 have L6_1 : ∀ (mm_ : Nat) (xa : Option Addr) (xc : Nat) (lx : List Int) (ya : Option Addr) (yc : Nat) (ly : List Int) (za : Option Addr) (zc : Nat) (lz : List Rw) (i : Int) (w7 : World), (0 ≤ i) → (i ≤ (Pz.length : Int)) → (((lz).length : Int) ≤ i) → ((lx).length ≤ 1000001) → ((ly).length ≤ 1000001) → (∀ y ∈ lx, i64B y) → (∀ y ∈ ly, i64B y) → (∀ r ∈ lz, okR r) → (okQ Pz (i).toNat) → (stQ Pz i lx ly lz) → Sep w (rowOf rwE za zc 22 1 lz :: rowOf Eng.encI xa xc 3 1 lx :: rowOf Eng.encI ya yc 3 1 ly :: box b3 [.slice xa lx.length xc, .slice ya ly.length yc, .slice za lz.length zc] 25 :: box b2 (Pz.map Value.string) 9 :: box b1 [.slice none 0 0, .slice none 0 0, .slice none 0 0] 25 :: tlR lz) w7 → ((Pz.length : Int) - i).toNat = mm_ → J Tryz.prog 6 74 R K6_11 [(34, iv i), (33, iv (Pz.length : Int)), (32, .slice (some ⟨b2, 0, none⟩) Pz.length Pz.length), (7, .pointer (some ⟨b3, 0, none⟩)), (2, .pointer (some ⟨b1, 0, none⟩))] w7 := by
  intro mm1
  induction mm1 using Nat.strongRecOn with
  | _ mm1 ih1 =>
  intro xa xc lx ya yc ly za zc lz i w7 h0 h1 hol hxl hyl hxb hyb hzb hok6 hst S11 hm1
  refine J.run 5 K6_12 [(35, .bool (decide (i < (Pz.length : Int)))), (34, iv i), (33, iv (Pz.length : Int)), (32, .slice (some ⟨b2, 0, none⟩) Pz.length Pz.length), (7, .pointer (some ⟨b3, 0, none⟩)), (2, .pointer (some ⟨b1, 0, none⟩))] w7 (by kernel_rfl) ?_
  by_cases fk4 : i < (Pz.length : Int)
  rotate_left
  ·skip
   refine J.head (.bool false) (congrArg Value.bool (decide_eq_false fk4)) ?_
   refine J.run 5 K6_43 [(7, .pointer (some ⟨b3, 0, none⟩)), (2, .pointer (some ⟨b1, 0, none⟩))] w7 (by kernel_rfl) ?_
   refine J.ok (OK.ldBox S11 3 69 25 0 (.agg #[.slice xa lx.length xc, .slice ya ly.length yc, .slice za lz.length zc]) (by kernel_rfl) rfl (by kernel_rfl)) ?_
   refine J.callF 70 8 #[.agg #[.slice xa lx.length xc, .slice ya ly.length yc, .slice za lz.length zc]] hb8 (by kernel_rfl) (valid_any (⟨xa, lx.length, xc, lx, ya, ly.length, yc, ly, za, lz.length, zc, lz⟩ : Mp) _ (show mpQ _ (⟨xa, lx.length, xc, lx, ya, ly.length, yc, ly, za, lz.length, zc, lz⟩ : Mp) from ⟨⟨(rowOf_cells (S11.nth 1 rfl)).2.2, rowOf_cap (S11.nth 1 rfl)⟩, (row1_ones (S11.nth 1 rfl) _ rfl), by exact hxb, ⟨(rowOf_cells (S11.nth 2 rfl)).2.2, rowOf_cap (S11.nth 2 rfl)⟩, (row1_ones (S11.nth 2 rfl) _ rfl), by exact hyb, ⟨(rowOf_cells (S11.nth 0 rfl)).2.2, rowOf_cap (S11.nth 0 rfl)⟩, (rowOf_recs (S11.nth 0 rfl) _ rfl (fun _ => rfl) (by decide)), by exact tlR_q S11 (fun c_ h_ => (show c_ ∈ [rowOf rwE za zc 22 1 lz, rowOf Eng.encI xa xc 3 1 lx, rowOf Eng.encI ya yc 3 1 ly, box b3 [.slice xa lx.length xc, .slice ya ly.length yc, .slice za lz.length zc] 25, box b2 (Pz.map Value.string) 9, box b1 [.slice none 0 0, .slice none 0 0, .slice none 0 0] 25] ++ tlR lz from List.mem_append.2 (.inr h_))) hzb, trivial⟩)) ?_
   rintro _ w19 ⟨rfl, T6⟩
   have S32 : Sep w (rowOf rwE za zc 22 1 lz :: rowOf Eng.encI xa xc 3 1 lx :: rowOf Eng.encI ya yc 3 1 ly :: box b3 [.slice xa lx.length xc, .slice ya ly.length yc, .slice za lz.length zc] 25 :: box b2 (Pz.map Value.string) 9 :: box b1 [.slice none 0 0, .slice none 0 0, .slice none 0 0] 25 :: tlR lz) w19 := S11.trans T6
   clear T6 S11
   refine J.run 2 K6_44 [(71, .bool (!(validM (⟨xa, lx.length, xc, lx, ya, ly.length, yc, ly, za, lz.length, zc, lz⟩ : Mp)))), (7, .pointer (some ⟨b3, 0, none⟩)), (2, .pointer (some ⟨b1, 0, none⟩))] w19 (by kernel_rfl) ?_
   rcases Bool.eq_false_or_eq_true (validM (⟨xa, lx.length, xc, lx, ya, ly.length, yc, ly, za, lz.length, zc, lz⟩ : Mp)) with fk18 | fk18
   rotate_left
   ·skip
    refine J.head (.bool true) (congrArg Value.bool (by rw [fk18]; rfl)) ?_
    refine J.run 4 K6_47 [(72, .agg #[.slice none 0 0, .slice none 0 0, .slice none 0 0]), (2, .pointer (some ⟨b1, 0, none⟩))] w19 (by kernel_rfl) ?_
    refine J.stBox S32 5 25 0 (.agg #[.slice none 0 0, .slice none 0 0, .slice none 0 0]) [.slice none 0 0, .slice none 0 0, .slice none 0 0] (rowOf rwE za zc 22 1 lz :: rowOf Eng.encI xa xc 3 1 lx :: rowOf Eng.encI ya yc 3 1 ly :: box b3 [.slice xa lx.length xc, .slice ya ly.length yc, .slice za lz.length zc] 25 :: box b2 (Pz.map Value.string) 9 :: box b1 [.slice none 0 0, .slice none 0 0, .slice none 0 0] 25 :: tlR lz) (by kernel_rfl) rfl (by kernel_rfl) (by kernel_rfl) rfl ?_
    intro w21 S37
    refine J.run 2 K6_48 [(3, iv 1), (2, .pointer (some ⟨b1, 0, none⟩))] w21 (by kernel_rfl) ?_
    refine J.ret Tryz.f6 [.agg #[.slice none 0 0, .slice none 0 0, .slice none 0 0], iv 1] Tryz.func6 ⟨⟨⟨b1, 0, none⟩, by kernel_rfl, ldV_run (S37.nth 5 rfl) (by kernel_rfl)⟩, by kernel_rfl, trivial⟩ ?_
    refine hR _ _ ?_
    have hok : okM (⟨xa, lx.length, xc, lx, ya, ly.length, yc, ly, za, lz.length, zc, lz⟩ : Mp) := ⟨hxb, hyb, hzb⟩
    have hln : lenM (⟨xa, lx.length, xc, lx, ya, ly.length, yc, ly, za, lz.length, zc, lz⟩ : Mp) := len_ok rfl rfl rfl hok
    have hmv : mvM (⟨xa, lx.length, xc, lx, ya, ly.length, yc, ly, za, lz.length, zc, lz⟩ : Mp) = mvB (lnsB s) := by rw [hPl]; exact mv_end (i := i) hst (by omega) (by omega)
    have hal : allOK (lnsB s) = true := by rw [hPl]; exact ok_all (i := i) hok6 (by omega)
    have hvv := valid_v hln
    rw [fk18, hmv] at hvv
    exact bad6 (pr1 (by omega) hsf (by rw [hPl]; omega) hal hvv.symm) (by decide) S37
   refine J.head (.bool false) (congrArg Value.bool (by rw [fk18]; rfl)) ?_
   refine J.run 4 K6_45 [(7, .pointer (some ⟨b3, 0, none⟩)), (2, .pointer (some ⟨b1, 0, none⟩))] w19 (by kernel_rfl) ?_
   refine J.ok (OK.ldBox S32 3 73 25 0 (.agg #[.slice xa lx.length xc, .slice ya ly.length yc, .slice za lz.length zc]) (by kernel_rfl) rfl (by kernel_rfl)) ?_
   refine J.stBox S32 5 25 0 (.agg #[.slice xa lx.length xc, .slice ya ly.length yc, .slice za lz.length zc]) [.slice xa lx.length xc, .slice ya ly.length yc, .slice za lz.length zc] (rowOf rwE za zc 22 1 lz :: rowOf Eng.encI xa xc 3 1 lx :: rowOf Eng.encI ya yc 3 1 ly :: box b3 [.slice xa lx.length xc, .slice ya ly.length yc, .slice za lz.length zc] 25 :: box b2 (Pz.map Value.string) 9 :: box b1 [.slice xa lx.length xc, .slice ya ly.length yc, .slice za lz.length zc] 25 :: tlR lz) (by kernel_rfl) rfl (by kernel_rfl) (by kernel_rfl) rfl ?_
   intro w20 S33
   refine J.run 2 K6_46 [(3, iv 0), (2, .pointer (some ⟨b1, 0, none⟩))] w20 (by kernel_rfl) ?_
   refine J.ret Tryz.f6 [.agg #[.slice xa lx.length xc, .slice ya ly.length yc, .slice za lz.length zc], iv 0] Tryz.func6 ⟨⟨⟨b1, 0, none⟩, by kernel_rfl, ldV_run (S33.nth 5 rfl) (by kernel_rfl)⟩, by kernel_rfl, trivial⟩ ?_
   refine hR _ _ ?_
   have S34 : Sep w (rowOf rwE za zc 22 1 lz :: rowOf Eng.encI xa xc 3 1 lx :: rowOf Eng.encI ya yc 3 1 ly :: tlR lz) w20 := S33.sub (.cons_cons _ (.cons_cons _ (.cons_cons _ (.cons _ (.cons _ (.cons _ (List.Sublist.refl _)))))))
   clear S33
   have S35 := S34.front 2 rfl
   clear S34
   have S36 : Sep w (rowOf Eng.encI xa xc 3 1 lx :: rowOf Eng.encI ya yc 3 1 ly :: rowOf rwE za zc 22 1 lz :: tlR lz) w20 := S35.front 2 rfl
   clear S35
   have hok : okM (⟨xa, lx.length, xc, lx, ya, ly.length, yc, ly, za, lz.length, zc, lz⟩ : Mp) := ⟨hxb, hyb, hzb⟩
   have hln : lenM (⟨xa, lx.length, xc, lx, ya, ly.length, yc, ly, za, lz.length, zc, lz⟩ : Mp) := len_ok rfl rfl rfl hok
   have hmv : mvM (⟨xa, lx.length, xc, lx, ya, ly.length, yc, ly, za, lz.length, zc, lz⟩ : Mp) = mvB (lnsB s) := by rw [hPl]; exact mv_end (i := i) hst (by omega) (by omega)
   have hal : allOK (lnsB s) = true := by rw [hPl]; exact ok_all (i := i) hok6 (by omega)
   have hvv := valid_v hln
   rw [fk18, hmv] at hvv
   exact ⟨(⟨xa, lx.length, xc, lx, ya, ly.length, yc, ly, za, lz.length, zc, lz⟩ : Mp), hln, hok, fun _ => hmv, by rw [pr0 (by omega) hsf (by rw [hPl]; omega) hal hvv.symm]; rfl, S36⟩
  refine J.head (.bool true) (congrArg Value.bool (decide_eq_true fk4)) ?_
  refine J.run 7 K6_13 [(36, iv i), (34, iv i), (33, iv (Pz.length : Int)), (32, .slice (some ⟨b2, 0, none⟩) Pz.length Pz.length), (7, .pointer (some ⟨b3, 0, none⟩)), (2, .pointer (some ⟨b1, 0, none⟩))] w7 (by kernel_rfl) ?_
  obtain ⟨p1, hp1, hc1⟩ := (box_ones (S11.nth 4 rfl) Pz.length rfl).at ByteArray.empty (i).toNat (by omega)
  refine J.ok (OK.index 37 41 1 (some ⟨b2, 0, none⟩) p1 Pz.length (i).toNat i (p1.add (i).toNat) (by kernel_rfl) (by kernel_rfl) hp1 (by omega) (by omega) (by rw [Nat.mul_one])) ?_
  refine J.ok (OK.ldCell 38 9 (p1.add (i).toNat) (.string (Pz.getD (i).toNat ByteArray.empty)) (by kernel_rfl) (by kernel_rfl) hc1) ?_
  refine J.run 2 K6_14 [(9, .string (Pz.getD (i).toNat ByteArray.empty)), (8, iv i), (34, iv i), (33, iv (Pz.length : Int)), (32, .slice (some ⟨b2, 0, none⟩) Pz.length Pz.length), (7, .pointer (some ⟨b3, 0, none⟩)), (2, .pointer (some ⟨b1, 0, none⟩))] w7 (by kernel_rfl) ?_
  obtain ⟨x, hx⟩ : ∃ x : ByteArray, x = Pz.getD (i).toNat ByteArray.empty := ⟨_, rfl⟩
  refine J.head (.string x) (congrArg Value.string hx.symm) ?_
  have hxs : x.size ≤ 16384 := by have h1_ := piece_size 10 (bodyB s) i.toNat; have h2_ := body_size s; rw [hPz] at h1_; rw [hx]; omega
  refine J.run 11 K6_15 [(40, .bool (decide (i < 2))), (10, .string ⟨#[122]⟩), (9, .string x), (8, iv i), (34, iv i), (33, iv (Pz.length : Int)), (32, .slice (some ⟨b2, 0, none⟩) Pz.length Pz.length), (7, .pointer (some ⟨b3, 0, none⟩)), (2, .pointer (some ⟨b1, 0, none⟩))] w7 (by kernel_rfl) ?_
  by_cases fk5 : i < 2
  rotate_left
  ·skip
   refine J.head (.bool false) (congrArg Value.bool (decide_eq_false fk5)) ?_
   refine J.run 6 K6_33 [(46, .string ⟨#[122]⟩), (45, .string x), (8, iv i), (34, iv i), (33, iv (Pz.length : Int)), (32, .slice (some ⟨b2, 0, none⟩) Pz.length Pz.length), (7, .pointer (some ⟨b3, 0, none⟩)), (2, .pointer (some ⟨b1, 0, none⟩))] w7 (by kernel_rfl) ?_
   refine J.callF 47 18 #[.string x, .string ⟨#[122]⟩] hb18 (by kernel_rfl) (numbers_any x (⟨#[122]⟩ : ByteArray) _ (by omega) (tabW_sep hW S11)) ?_
   rintro _ w14 ⟨na3, nc3, rfl, T5⟩
   have S25 : Sep w (rowOf Eng.encI na3 nc3 3 1 (nuV (⟨#[122]⟩ : ByteArray) x) :: rowOf rwE za zc 22 1 lz :: rowOf Eng.encI xa xc 3 1 lx :: rowOf Eng.encI ya yc 3 1 ly :: box b3 [.slice xa lx.length xc, .slice ya ly.length yc, .slice za lz.length zc] 25 :: box b2 (Pz.map Value.string) 9 :: box b1 [.slice none 0 0, .slice none 0 0, .slice none 0 0] 25 :: tlR lz) w14 := S11.trans T5
   clear T5
   have hnl := nuV_len (⟨#[122]⟩ : ByteArray) x (by omega)
   refine J.run 12 K6_34 [(51, .bool (!(lnOK (⟨#[122]⟩ : ByteArray) (piecesB 32 x)))), (11, .slice na3 ((nuV (⟨#[122]⟩ : ByteArray) x).length) nc3), (8, iv i), (34, iv i), (33, iv (Pz.length : Int)), (32, .slice (some ⟨b2, 0, none⟩) Pz.length Pz.length), (7, .pointer (some ⟨b3, 0, none⟩)), (2, .pointer (some ⟨b1, 0, none⟩))] w14 (by kernel_rfl) ?_
   rcases Bool.eq_false_or_eq_true (lnOK (⟨#[122]⟩ : ByteArray) (piecesB 32 x)) with fk13 | fk13
   rotate_left
   ·skip
    refine J.head (.bool true) (congrArg Value.bool (by rw [fk13]; rfl)) ?_
    refine J.run 4 K6_41 [(52, .agg #[.slice none 0 0, .slice none 0 0, .slice none 0 0]), (2, .pointer (some ⟨b1, 0, none⟩))] w14 (by kernel_rfl) ?_
    refine J.stBox S25 6 25 0 (.agg #[.slice none 0 0, .slice none 0 0, .slice none 0 0]) [.slice none 0 0, .slice none 0 0, .slice none 0 0] (rowOf Eng.encI na3 nc3 3 1 (nuV (⟨#[122]⟩ : ByteArray) x) :: rowOf rwE za zc 22 1 lz :: rowOf Eng.encI xa xc 3 1 lx :: rowOf Eng.encI ya yc 3 1 ly :: box b3 [.slice xa lx.length xc, .slice ya ly.length yc, .slice za lz.length zc] 25 :: box b2 (Pz.map Value.string) 9 :: box b1 [.slice none 0 0, .slice none 0 0, .slice none 0 0] 25 :: tlR lz) (by kernel_rfl) rfl (by kernel_rfl) (by kernel_rfl) rfl ?_
    intro w18 S31
    refine J.run 2 K6_42 [(3, iv 3), (2, .pointer (some ⟨b1, 0, none⟩))] w18 (by kernel_rfl) ?_
    refine J.ret Tryz.f6 [.agg #[.slice none 0 0, .slice none 0 0, .slice none 0 0], iv 3] Tryz.func6 ⟨⟨⟨b1, 0, none⟩, by kernel_rfl, ldV_run (S31.nth 6 rfl) (by kernel_rfl)⟩, by kernel_rfl, trivial⟩ ?_
    refine hR _ _ ?_
    exact bad6 (pr3b (by omega) (by rw [hPl]; exact ok_bad (i := i) (by omega) h0 hx (wdA2 (by omega)) fk13) hsf (by rw [hPl]; omega)) (by decide) S31
   refine J.head (.bool false) (congrArg Value.bool (by rw [fk13]; rfl)) ?_
   refine J.run 12 K6_35 [(60, .bool (i == 0)), (53, iv i), (11, .slice na3 ((nuV (⟨#[122]⟩ : ByteArray) x).length) nc3), (34, iv i), (33, iv (Pz.length : Int)), (32, .slice (some ⟨b2, 0, none⟩) Pz.length Pz.length), (7, .pointer (some ⟨b3, 0, none⟩)), (2, .pointer (some ⟨b1, 0, none⟩))] w14 (by kernel_rfl) ?_
   have fk15 : ¬ (i = 0) := by omega
   refine J.head (.bool false) (congrArg Value.bool (beq_eq_false_iff_ne.2 fk15)) ?_
   refine J.run 6 K6_36 [(64, .bool (i == 1)), (11, .slice na3 ((nuV (⟨#[122]⟩ : ByteArray) x).length) nc3), (34, iv i), (33, iv (Pz.length : Int)), (32, .slice (some ⟨b2, 0, none⟩) Pz.length Pz.length), (7, .pointer (some ⟨b3, 0, none⟩)), (2, .pointer (some ⟨b1, 0, none⟩))] w14 (by kernel_rfl) ?_
   have fk17 : ¬ (i = 1) := by omega
   refine J.head (.bool false) (congrArg Value.bool (beq_eq_false_iff_ne.2 fk17)) ?_
   refine J.run 3 K6_37 [(54, .pointer (some ⟨b3, 2, none⟩)), (11, .slice na3 ((nuV (⟨#[122]⟩ : ByteArray) x).length) nc3), (34, iv i), (33, iv (Pz.length : Int)), (32, .slice (some ⟨b2, 0, none⟩) Pz.length Pz.length), (7, .pointer (some ⟨b3, 0, none⟩)), (2, .pointer (some ⟨b1, 0, none⟩))] w14 (by kernel_rfl) ?_
   refine J.ok (OK.ldBox S25 4 55 23 2 (.slice za lz.length zc) (by kernel_rfl) rfl (by kernel_rfl)) ?_
   refine J.run 1 K6_38 [(56, .slice na3 ((nuV (⟨#[122]⟩ : ByteArray) x).length) nc3), (55, .slice za lz.length zc), (34, iv i), (33, iv (Pz.length : Int)), (32, .slice (some ⟨b2, 0, none⟩) Pz.length Pz.length), (7, .pointer (some ⟨b3, 0, none⟩)), (2, .pointer (some ⟨b1, 0, none⟩))] w14 (by kernel_rfl) ?_
   refine J.newSlice S25 57 1 [.slice na3 ((nuV (⟨#[122]⟩ : ByteArray) x).length) nc3] 22 (by kernel_rfl) ?_
   intro b4 w15 S26
   refine J.append rwE S26 2 lz (⟨na3, (nuV (⟨#[122]⟩ : ByteArray) x).length, nc3, nuV (⟨#[122]⟩ : ByteArray) x⟩ : Rw) 58 23 (.slice none 0 0) 24 ⟨b4, 0, none⟩ 1 rfl (by kernel_rfl) (by kernel_rfl) (by kernel_rfl) (by kernel_rfl) (by decide) (box_cells (S26.nth 0 rfl)) (by kernel_rfl) (by kernel_rfl) (⟨by omega, by omega⟩) ?_
   intro ra1 rc1 w16 S27
   replace S27 : Sep w (box b4 [.slice na3 ((nuV (⟨#[122]⟩ : ByteArray) x).length) nc3] 22 :: rowOf Eng.encI na3 nc3 3 1 (nuV (⟨#[122]⟩ : ByteArray) x) :: rowOf rwE ra1 rc1 22 1 (lz ++ [(⟨na3, (nuV (⟨#[122]⟩ : ByteArray) x).length, nc3, nuV (⟨#[122]⟩ : ByteArray) x⟩ : Rw)]) :: rowOf Eng.encI xa xc 3 1 lx :: rowOf Eng.encI ya yc 3 1 ly :: box b3 [.slice xa lx.length xc, .slice ya ly.length yc, .slice za lz.length zc] 25 :: box b2 (Pz.map Value.string) 9 :: box b1 [.slice none 0 0, .slice none 0 0, .slice none 0 0] 25 :: tlR lz) w16 := S27
   have S28 : Sep w (rowOf Eng.encI na3 nc3 3 1 (nuV (⟨#[122]⟩ : ByteArray) x) :: rowOf rwE ra1 rc1 22 1 (lz ++ [(⟨na3, (nuV (⟨#[122]⟩ : ByteArray) x).length, nc3, nuV (⟨#[122]⟩ : ByteArray) x⟩ : Rw)]) :: rowOf Eng.encI xa xc 3 1 lx :: rowOf Eng.encI ya yc 3 1 ly :: box b3 [.slice xa lx.length xc, .slice ya ly.length yc, .slice za lz.length zc] 25 :: box b2 (Pz.map Value.string) 9 :: box b1 [.slice none 0 0, .slice none 0 0, .slice none 0 0] 25 :: tlR lz) w16 := S27.erase 0
   clear S27
   have S29 : Sep w (rowOf rwE ra1 rc1 22 1 (lz ++ [(⟨na3, (nuV (⟨#[122]⟩ : ByteArray) x).length, nc3, nuV (⟨#[122]⟩ : ByteArray) x⟩ : Rw)]) :: rowOf Eng.encI xa xc 3 1 lx :: rowOf Eng.encI ya yc 3 1 ly :: box b3 [.slice xa lx.length xc, .slice ya ly.length yc, .slice za lz.length zc] 25 :: box b2 (Pz.map Value.string) 9 :: box b1 [.slice none 0 0, .slice none 0 0, .slice none 0 0] 25 :: tlR (lz ++ [(⟨na3, (nuV (⟨#[122]⟩ : ByteArray) x).length, nc3, nuV (⟨#[122]⟩ : ByteArray) x⟩ : Rw)])) w16 := by rw [tlR_snoc]; exact S28.back 6
   refine J.run 1 K6_39 [(59, .pointer (some ⟨b3, 2, none⟩)), (58, .slice ra1 ((lz ++ [(⟨na3, (nuV (⟨#[122]⟩ : ByteArray) x).length, nc3, nuV (⟨#[122]⟩ : ByteArray) x⟩ : Rw)]).length) rc1), (34, iv i), (33, iv (Pz.length : Int)), (32, .slice (some ⟨b2, 0, none⟩) Pz.length Pz.length), (7, .pointer (some ⟨b3, 0, none⟩)), (2, .pointer (some ⟨b1, 0, none⟩))] w16 (by kernel_rfl) ?_
   refine J.stBox S29 3 23 2 (.slice ra1 ((lz ++ [(⟨na3, (nuV (⟨#[122]⟩ : ByteArray) x).length, nc3, nuV (⟨#[122]⟩ : ByteArray) x⟩ : Rw)]).length) rc1) [.slice xa lx.length xc, .slice ya ly.length yc, .slice ra1 ((lz ++ [(⟨na3, (nuV (⟨#[122]⟩ : ByteArray) x).length, nc3, nuV (⟨#[122]⟩ : ByteArray) x⟩ : Rw)]).length) rc1] (rowOf rwE ra1 rc1 22 1 (lz ++ [(⟨na3, (nuV (⟨#[122]⟩ : ByteArray) x).length, nc3, nuV (⟨#[122]⟩ : ByteArray) x⟩ : Rw)]) :: rowOf Eng.encI xa xc 3 1 lx :: rowOf Eng.encI ya yc 3 1 ly :: box b3 [.slice xa lx.length xc, .slice ya ly.length yc, .slice ra1 ((lz ++ [(⟨na3, (nuV (⟨#[122]⟩ : ByteArray) x).length, nc3, nuV (⟨#[122]⟩ : ByteArray) x⟩ : Rw)]).length) rc1] 25 :: box b2 (Pz.map Value.string) 9 :: box b1 [.slice none 0 0, .slice none 0 0, .slice none 0 0] 25 :: tlR (lz ++ [(⟨na3, (nuV (⟨#[122]⟩ : ByteArray) x).length, nc3, nuV (⟨#[122]⟩ : ByteArray) x⟩ : Rw)])) (by kernel_rfl) rfl (by kernel_rfl) (by kernel_rfl) rfl ?_
   intro w17 S30
   refine J.run 5 K6_40 [(68, iv (IntKind.wrap .i64 (i + 1))), (33, iv (Pz.length : Int)), (32, .slice (some ⟨b2, 0, none⟩) Pz.length Pz.length), (7, .pointer (some ⟨b3, 0, none⟩)), (2, .pointer (some ⟨b1, 0, none⟩))] w17 (by kernel_rfl) ?_
   refine J.head (iv (i + 1)) (congrArg (Value.int .i64) (IntWalk.i64_in _ (by omega))) ?_
   refine J.run 3 K6_11 [(34, iv (i + 1)), (33, iv (Pz.length : Int)), (32, .slice (some ⟨b2, 0, none⟩) Pz.length Pz.length), (7, .pointer (some ⟨b3, 0, none⟩)), (2, .pointer (some ⟨b1, 0, none⟩))] w17 (by kernel_rfl) ?_
   refine J.run 0 K6_11 [(34, iv (i + 1)), (33, iv (Pz.length : Int)), (32, .slice (some ⟨b2, 0, none⟩) Pz.length Pz.length), (7, .pointer (some ⟨b3, 0, none⟩)), (2, .pointer (some ⟨b1, 0, none⟩))] w17 (by kernel_rfl) ?_
   exact ih1 _ (show ((Pz.length : Int) - (i + 1)).toNat < mm1 from by omega) xa xc lx ya yc ly ra1 rc1 (lz ++ [(⟨na3, (nuV (⟨#[122]⟩ : ByteArray) x).length, nc3, nuV (⟨#[122]⟩ : ByteArray) x⟩ : Rw)]) (i + 1) w17 (by omega) (by omega) (by (try rw [List.length_append, List.length_singleton]); omega) (by omega) (by omega) (hxb) (hyb) (fun r hr => by rcases List.mem_append.1 hr with hr | hr; exact hzb r hr; rw [List.mem_singleton.1 hr]; exact ⟨rfl, nuV_bd _ _⟩) (okQ_step hok6 h0 hx (wdA2 (by omega)) fk13) (st_z hst (by omega) (by omega) hx (nuV_ok fk13)) S30 rfl
  refine J.head (.bool true) (congrArg Value.bool (decide_eq_true fk5)) ?_
  by_cases fk6 : i = 0
  ·skip
   refine J.run 4 K6_16 [(42, iv i), (41, .agg #[.string ⟨#[120]⟩, .string ⟨#[121]⟩]), (9, .string x), (8, iv i), (34, iv i), (33, iv (Pz.length : Int)), (32, .slice (some ⟨b2, 0, none⟩) Pz.length Pz.length), (7, .pointer (some ⟨b3, 0, none⟩)), (2, .pointer (some ⟨b1, 0, none⟩))] w7 (by kernel_rfl) ?_
   refine J.head (iv 0) (congrArg (Value.int .i64) (by omega)) ?_
   refine J.run 7 K6_17 [(46, .string ⟨#[120]⟩), (45, .string x), (8, iv i), (34, iv i), (33, iv (Pz.length : Int)), (32, .slice (some ⟨b2, 0, none⟩) Pz.length Pz.length), (7, .pointer (some ⟨b3, 0, none⟩)), (2, .pointer (some ⟨b1, 0, none⟩))] w7 (by kernel_rfl) ?_
   refine J.callF 47 18 #[.string x, .string ⟨#[120]⟩] hb18 (by kernel_rfl) (numbers_any x (⟨#[120]⟩ : ByteArray) _ (by omega) (tabW_sep hW S11)) ?_
   rintro _ w8 ⟨na1, nc1, rfl, T3⟩
   have S12 : Sep w (rowOf Eng.encI na1 nc1 3 1 (nuV (⟨#[120]⟩ : ByteArray) x) :: rowOf rwE za zc 22 1 lz :: rowOf Eng.encI xa xc 3 1 lx :: rowOf Eng.encI ya yc 3 1 ly :: box b3 [.slice xa lx.length xc, .slice ya ly.length yc, .slice za lz.length zc] 25 :: box b2 (Pz.map Value.string) 9 :: box b1 [.slice none 0 0, .slice none 0 0, .slice none 0 0] 25 :: tlR lz) w8 := S11.trans T3
   clear T3
   have hnl := nuV_len (⟨#[120]⟩ : ByteArray) x (by omega)
   refine J.run 12 K6_18 [(51, .bool (!(lnOK (⟨#[120]⟩ : ByteArray) (piecesB 32 x)))), (11, .slice na1 ((nuV (⟨#[120]⟩ : ByteArray) x).length) nc1), (8, iv i), (34, iv i), (33, iv (Pz.length : Int)), (32, .slice (some ⟨b2, 0, none⟩) Pz.length Pz.length), (7, .pointer (some ⟨b3, 0, none⟩)), (2, .pointer (some ⟨b1, 0, none⟩))] w8 (by kernel_rfl) ?_
   rcases Bool.eq_false_or_eq_true (lnOK (⟨#[120]⟩ : ByteArray) (piecesB 32 x)) with fk7 | fk7
   rotate_left
   ·skip
    refine J.head (.bool true) (congrArg Value.bool (by rw [fk7]; rfl)) ?_
    refine J.run 4 K6_22 [(52, .agg #[.slice none 0 0, .slice none 0 0, .slice none 0 0]), (2, .pointer (some ⟨b1, 0, none⟩))] w8 (by kernel_rfl) ?_
    refine J.stBox S12 6 25 0 (.agg #[.slice none 0 0, .slice none 0 0, .slice none 0 0]) [.slice none 0 0, .slice none 0 0, .slice none 0 0] (rowOf Eng.encI na1 nc1 3 1 (nuV (⟨#[120]⟩ : ByteArray) x) :: rowOf rwE za zc 22 1 lz :: rowOf Eng.encI xa xc 3 1 lx :: rowOf Eng.encI ya yc 3 1 ly :: box b3 [.slice xa lx.length xc, .slice ya ly.length yc, .slice za lz.length zc] 25 :: box b2 (Pz.map Value.string) 9 :: box b1 [.slice none 0 0, .slice none 0 0, .slice none 0 0] 25 :: tlR lz) (by kernel_rfl) rfl (by kernel_rfl) (by kernel_rfl) rfl ?_
    intro w10 S17
    refine J.run 2 K6_23 [(3, iv 3), (2, .pointer (some ⟨b1, 0, none⟩))] w10 (by kernel_rfl) ?_
    refine J.ret Tryz.f6 [.agg #[.slice none 0 0, .slice none 0 0, .slice none 0 0], iv 3] Tryz.func6 ⟨⟨⟨b1, 0, none⟩, by kernel_rfl, ldV_run (S17.nth 6 rfl) (by kernel_rfl)⟩, by kernel_rfl, trivial⟩ ?_
    refine hR _ _ ?_
    exact bad6 (pr3b (by omega) (by rw [hPl]; exact ok_bad (i := i) (by omega) h0 hx (wdA0 (by omega)) fk7) hsf (by rw [hPl]; omega)) (by decide) S17
   refine J.head (.bool false) (congrArg Value.bool (by rw [fk7]; rfl)) ?_
   refine J.run 12 K6_19 [(60, .bool (i == 0)), (53, iv i), (11, .slice na1 ((nuV (⟨#[120]⟩ : ByteArray) x).length) nc1), (34, iv i), (33, iv (Pz.length : Int)), (32, .slice (some ⟨b2, 0, none⟩) Pz.length Pz.length), (7, .pointer (some ⟨b3, 0, none⟩)), (2, .pointer (some ⟨b1, 0, none⟩))] w8 (by kernel_rfl) ?_
   refine J.head (.bool true) (congrArg Value.bool (beq_iff_eq.2 fk6)) ?_
   refine J.run 4 K6_20 [(63, .pointer (some ⟨b3, 0, none⟩)), (62, .slice na1 ((nuV (⟨#[120]⟩ : ByteArray) x).length) nc1), (34, iv i), (33, iv (Pz.length : Int)), (32, .slice (some ⟨b2, 0, none⟩) Pz.length Pz.length), (7, .pointer (some ⟨b3, 0, none⟩)), (2, .pointer (some ⟨b1, 0, none⟩))] w8 (by kernel_rfl) ?_
   refine J.stBox S12 4 22 0 (.slice na1 ((nuV (⟨#[120]⟩ : ByteArray) x).length) nc1) [.slice na1 ((nuV (⟨#[120]⟩ : ByteArray) x).length) nc1, .slice ya ly.length yc, .slice za lz.length zc] (rowOf Eng.encI na1 nc1 3 1 (nuV (⟨#[120]⟩ : ByteArray) x) :: rowOf rwE za zc 22 1 lz :: rowOf Eng.encI xa xc 3 1 lx :: rowOf Eng.encI ya yc 3 1 ly :: box b3 [.slice na1 ((nuV (⟨#[120]⟩ : ByteArray) x).length) nc1, .slice ya ly.length yc, .slice za lz.length zc] 25 :: box b2 (Pz.map Value.string) 9 :: box b1 [.slice none 0 0, .slice none 0 0, .slice none 0 0] 25 :: tlR lz) (by kernel_rfl) rfl (by kernel_rfl) (by kernel_rfl) rfl ?_
   intro w9 S13
   refine J.run 5 K6_21 [(68, iv (IntKind.wrap .i64 (i + 1))), (33, iv (Pz.length : Int)), (32, .slice (some ⟨b2, 0, none⟩) Pz.length Pz.length), (7, .pointer (some ⟨b3, 0, none⟩)), (2, .pointer (some ⟨b1, 0, none⟩))] w9 (by kernel_rfl) ?_
   refine J.head (iv (i + 1)) (congrArg (Value.int .i64) (IntWalk.i64_in _ (by omega))) ?_
   refine J.run 3 K6_11 [(34, iv (i + 1)), (33, iv (Pz.length : Int)), (32, .slice (some ⟨b2, 0, none⟩) Pz.length Pz.length), (7, .pointer (some ⟨b3, 0, none⟩)), (2, .pointer (some ⟨b1, 0, none⟩))] w9 (by kernel_rfl) ?_
   have S14 : Sep w (rowOf Eng.encI na1 nc1 3 1 (nuV (⟨#[120]⟩ : ByteArray) x) :: rowOf rwE za zc 22 1 lz :: rowOf Eng.encI ya yc 3 1 ly :: box b3 [.slice na1 ((nuV (⟨#[120]⟩ : ByteArray) x).length) nc1, .slice ya ly.length yc, .slice za lz.length zc] 25 :: box b2 (Pz.map Value.string) 9 :: box b1 [.slice none 0 0, .slice none 0 0, .slice none 0 0] 25 :: tlR lz) w9 := S13.erase 2
   clear S13
   have S15 : Sep w (rowOf Eng.encI na1 nc1 3 1 (nuV (⟨#[120]⟩ : ByteArray) x) :: rowOf rwE za zc 22 1 lz :: rowOf Eng.encI ya yc 3 1 ly :: box b3 [.slice na1 ((nuV (⟨#[120]⟩ : ByteArray) x).length) nc1, .slice ya ly.length yc, .slice za lz.length zc] 25 :: box b2 (Pz.map Value.string) 9 :: box b1 [.slice none 0 0, .slice none 0 0, .slice none 0 0] 25 :: tlR lz) w9 := S14.front 0 rfl
   have S16 : Sep w (rowOf rwE za zc 22 1 lz :: rowOf Eng.encI na1 nc1 3 1 (nuV (⟨#[120]⟩ : ByteArray) x) :: rowOf Eng.encI ya yc 3 1 ly :: box b3 [.slice na1 ((nuV (⟨#[120]⟩ : ByteArray) x).length) nc1, .slice ya ly.length yc, .slice za lz.length zc] 25 :: box b2 (Pz.map Value.string) 9 :: box b1 [.slice none 0 0, .slice none 0 0, .slice none 0 0] 25 :: tlR lz) w9 := S15.front 1 rfl
   refine J.run 0 K6_11 [(34, iv (i + 1)), (33, iv (Pz.length : Int)), (32, .slice (some ⟨b2, 0, none⟩) Pz.length Pz.length), (7, .pointer (some ⟨b3, 0, none⟩)), (2, .pointer (some ⟨b1, 0, none⟩))] w9 (by kernel_rfl) ?_
   exact ih1 _ (show ((Pz.length : Int) - (i + 1)).toNat < mm1 from by omega) na1 nc1 (nuV (⟨#[120]⟩ : ByteArray) x) ya yc ly za zc lz (i + 1) w9 (by omega) (by omega) (by (try rw [List.length_append, List.length_singleton]); omega) (by omega) (by omega) (nuV_bd _ _) (hyb) (hzb) (okQ_step hok6 h0 hx (wdA0 (by omega)) fk7) (st_x hst (by omega) (by omega) hx (nuV_ok fk7)) S16 rfl
  refine J.run 4 K6_24 [(42, iv i), (41, .agg #[.string ⟨#[120]⟩, .string ⟨#[121]⟩]), (9, .string x), (8, iv i), (34, iv i), (33, iv (Pz.length : Int)), (32, .slice (some ⟨b2, 0, none⟩) Pz.length Pz.length), (7, .pointer (some ⟨b3, 0, none⟩)), (2, .pointer (some ⟨b1, 0, none⟩))] w7 (by kernel_rfl) ?_
  refine J.head (iv 1) (congrArg (Value.int .i64) (by omega)) ?_
  refine J.run 7 K6_25 [(46, .string ⟨#[121]⟩), (45, .string x), (8, iv i), (34, iv i), (33, iv (Pz.length : Int)), (32, .slice (some ⟨b2, 0, none⟩) Pz.length Pz.length), (7, .pointer (some ⟨b3, 0, none⟩)), (2, .pointer (some ⟨b1, 0, none⟩))] w7 (by kernel_rfl) ?_
  refine J.callF 47 18 #[.string x, .string ⟨#[121]⟩] hb18 (by kernel_rfl) (numbers_any x (⟨#[121]⟩ : ByteArray) _ (by omega) (tabW_sep hW S11)) ?_
  rintro _ w11 ⟨na2, nc2, rfl, T4⟩
  have S18 : Sep w (rowOf Eng.encI na2 nc2 3 1 (nuV (⟨#[121]⟩ : ByteArray) x) :: rowOf rwE za zc 22 1 lz :: rowOf Eng.encI xa xc 3 1 lx :: rowOf Eng.encI ya yc 3 1 ly :: box b3 [.slice xa lx.length xc, .slice ya ly.length yc, .slice za lz.length zc] 25 :: box b2 (Pz.map Value.string) 9 :: box b1 [.slice none 0 0, .slice none 0 0, .slice none 0 0] 25 :: tlR lz) w11 := S11.trans T4
  clear T4
  have hnl := nuV_len (⟨#[121]⟩ : ByteArray) x (by omega)
  refine J.run 12 K6_26 [(51, .bool (!(lnOK (⟨#[121]⟩ : ByteArray) (piecesB 32 x)))), (11, .slice na2 ((nuV (⟨#[121]⟩ : ByteArray) x).length) nc2), (8, iv i), (34, iv i), (33, iv (Pz.length : Int)), (32, .slice (some ⟨b2, 0, none⟩) Pz.length Pz.length), (7, .pointer (some ⟨b3, 0, none⟩)), (2, .pointer (some ⟨b1, 0, none⟩))] w11 (by kernel_rfl) ?_
  rcases Bool.eq_false_or_eq_true (lnOK (⟨#[121]⟩ : ByteArray) (piecesB 32 x)) with fk9 | fk9
  rotate_left
  ·skip
   refine J.head (.bool true) (congrArg Value.bool (by rw [fk9]; rfl)) ?_
   refine J.run 4 K6_31 [(52, .agg #[.slice none 0 0, .slice none 0 0, .slice none 0 0]), (2, .pointer (some ⟨b1, 0, none⟩))] w11 (by kernel_rfl) ?_
   refine J.stBox S18 6 25 0 (.agg #[.slice none 0 0, .slice none 0 0, .slice none 0 0]) [.slice none 0 0, .slice none 0 0, .slice none 0 0] (rowOf Eng.encI na2 nc2 3 1 (nuV (⟨#[121]⟩ : ByteArray) x) :: rowOf rwE za zc 22 1 lz :: rowOf Eng.encI xa xc 3 1 lx :: rowOf Eng.encI ya yc 3 1 ly :: box b3 [.slice xa lx.length xc, .slice ya ly.length yc, .slice za lz.length zc] 25 :: box b2 (Pz.map Value.string) 9 :: box b1 [.slice none 0 0, .slice none 0 0, .slice none 0 0] 25 :: tlR lz) (by kernel_rfl) rfl (by kernel_rfl) (by kernel_rfl) rfl ?_
   intro w13 S24
   refine J.run 2 K6_32 [(3, iv 3), (2, .pointer (some ⟨b1, 0, none⟩))] w13 (by kernel_rfl) ?_
   refine J.ret Tryz.f6 [.agg #[.slice none 0 0, .slice none 0 0, .slice none 0 0], iv 3] Tryz.func6 ⟨⟨⟨b1, 0, none⟩, by kernel_rfl, ldV_run (S24.nth 6 rfl) (by kernel_rfl)⟩, by kernel_rfl, trivial⟩ ?_
   refine hR _ _ ?_
   exact bad6 (pr3b (by omega) (by rw [hPl]; exact ok_bad (i := i) (by omega) h0 hx (wdA1 (by omega)) fk9) hsf (by rw [hPl]; omega)) (by decide) S24
  refine J.head (.bool false) (congrArg Value.bool (by rw [fk9]; rfl)) ?_
  refine J.run 12 K6_27 [(60, .bool (i == 0)), (53, iv i), (11, .slice na2 ((nuV (⟨#[121]⟩ : ByteArray) x).length) nc2), (34, iv i), (33, iv (Pz.length : Int)), (32, .slice (some ⟨b2, 0, none⟩) Pz.length Pz.length), (7, .pointer (some ⟨b3, 0, none⟩)), (2, .pointer (some ⟨b1, 0, none⟩))] w11 (by kernel_rfl) ?_
  refine J.head (.bool false) (congrArg Value.bool (beq_eq_false_iff_ne.2 fk6)) ?_
  refine J.run 6 K6_28 [(64, .bool (i == 1)), (11, .slice na2 ((nuV (⟨#[121]⟩ : ByteArray) x).length) nc2), (34, iv i), (33, iv (Pz.length : Int)), (32, .slice (some ⟨b2, 0, none⟩) Pz.length Pz.length), (7, .pointer (some ⟨b3, 0, none⟩)), (2, .pointer (some ⟨b1, 0, none⟩))] w11 (by kernel_rfl) ?_
  have fk12 : i = 1 := by omega
  refine J.head (.bool true) (congrArg Value.bool (beq_iff_eq.2 fk12)) ?_
  refine J.run 4 K6_29 [(67, .pointer (some ⟨b3, 1, none⟩)), (66, .slice na2 ((nuV (⟨#[121]⟩ : ByteArray) x).length) nc2), (34, iv i), (33, iv (Pz.length : Int)), (32, .slice (some ⟨b2, 0, none⟩) Pz.length Pz.length), (7, .pointer (some ⟨b3, 0, none⟩)), (2, .pointer (some ⟨b1, 0, none⟩))] w11 (by kernel_rfl) ?_
  refine J.stBox S18 4 22 1 (.slice na2 ((nuV (⟨#[121]⟩ : ByteArray) x).length) nc2) [.slice xa lx.length xc, .slice na2 ((nuV (⟨#[121]⟩ : ByteArray) x).length) nc2, .slice za lz.length zc] (rowOf Eng.encI na2 nc2 3 1 (nuV (⟨#[121]⟩ : ByteArray) x) :: rowOf rwE za zc 22 1 lz :: rowOf Eng.encI xa xc 3 1 lx :: rowOf Eng.encI ya yc 3 1 ly :: box b3 [.slice xa lx.length xc, .slice na2 ((nuV (⟨#[121]⟩ : ByteArray) x).length) nc2, .slice za lz.length zc] 25 :: box b2 (Pz.map Value.string) 9 :: box b1 [.slice none 0 0, .slice none 0 0, .slice none 0 0] 25 :: tlR lz) (by kernel_rfl) rfl (by kernel_rfl) (by kernel_rfl) rfl ?_
  intro w12 S19
  refine J.run 5 K6_30 [(68, iv (IntKind.wrap .i64 (i + 1))), (33, iv (Pz.length : Int)), (32, .slice (some ⟨b2, 0, none⟩) Pz.length Pz.length), (7, .pointer (some ⟨b3, 0, none⟩)), (2, .pointer (some ⟨b1, 0, none⟩))] w12 (by kernel_rfl) ?_
  refine J.head (iv (i + 1)) (congrArg (Value.int .i64) (IntWalk.i64_in _ (by omega))) ?_
  refine J.run 3 K6_11 [(34, iv (i + 1)), (33, iv (Pz.length : Int)), (32, .slice (some ⟨b2, 0, none⟩) Pz.length Pz.length), (7, .pointer (some ⟨b3, 0, none⟩)), (2, .pointer (some ⟨b1, 0, none⟩))] w12 (by kernel_rfl) ?_
  have S20 : Sep w (rowOf Eng.encI na2 nc2 3 1 (nuV (⟨#[121]⟩ : ByteArray) x) :: rowOf rwE za zc 22 1 lz :: rowOf Eng.encI xa xc 3 1 lx :: box b3 [.slice xa lx.length xc, .slice na2 ((nuV (⟨#[121]⟩ : ByteArray) x).length) nc2, .slice za lz.length zc] 25 :: box b2 (Pz.map Value.string) 9 :: box b1 [.slice none 0 0, .slice none 0 0, .slice none 0 0] 25 :: tlR lz) w12 := S19.erase 3
  clear S19
  have S21 : Sep w (rowOf Eng.encI na2 nc2 3 1 (nuV (⟨#[121]⟩ : ByteArray) x) :: rowOf rwE za zc 22 1 lz :: rowOf Eng.encI xa xc 3 1 lx :: box b3 [.slice xa lx.length xc, .slice na2 ((nuV (⟨#[121]⟩ : ByteArray) x).length) nc2, .slice za lz.length zc] 25 :: box b2 (Pz.map Value.string) 9 :: box b1 [.slice none 0 0, .slice none 0 0, .slice none 0 0] 25 :: tlR lz) w12 := S20.front 0 rfl
  have S22 : Sep w (rowOf Eng.encI xa xc 3 1 lx :: rowOf Eng.encI na2 nc2 3 1 (nuV (⟨#[121]⟩ : ByteArray) x) :: rowOf rwE za zc 22 1 lz :: box b3 [.slice xa lx.length xc, .slice na2 ((nuV (⟨#[121]⟩ : ByteArray) x).length) nc2, .slice za lz.length zc] 25 :: box b2 (Pz.map Value.string) 9 :: box b1 [.slice none 0 0, .slice none 0 0, .slice none 0 0] 25 :: tlR lz) w12 := S21.front 2 rfl
  have S23 : Sep w (rowOf rwE za zc 22 1 lz :: rowOf Eng.encI xa xc 3 1 lx :: rowOf Eng.encI na2 nc2 3 1 (nuV (⟨#[121]⟩ : ByteArray) x) :: box b3 [.slice xa lx.length xc, .slice na2 ((nuV (⟨#[121]⟩ : ByteArray) x).length) nc2, .slice za lz.length zc] 25 :: box b2 (Pz.map Value.string) 9 :: box b1 [.slice none 0 0, .slice none 0 0, .slice none 0 0] 25 :: tlR lz) w12 := S22.front 2 rfl
  refine J.run 0 K6_11 [(34, iv (i + 1)), (33, iv (Pz.length : Int)), (32, .slice (some ⟨b2, 0, none⟩) Pz.length Pz.length), (7, .pointer (some ⟨b3, 0, none⟩)), (2, .pointer (some ⟨b1, 0, none⟩))] w12 (by kernel_rfl) ?_
  exact ih1 _ (show ((Pz.length : Int) - (i + 1)).toNat < mm1 from by omega) xa xc lx na2 nc2 (nuV (⟨#[121]⟩ : ByteArray) x) za zc lz (i + 1) w12 (by omega) (by omega) (by (try rw [List.length_append, List.length_singleton]); omega) (by omega) (by omega) (hxb) (nuV_bd _ _) (hzb) (okQ_step hok6 h0 hx (wdA1 (by omega)) fk9) (st_y hst (by omega) (by omega) hx (nuV_ok fk9)) S23 rfl
 exact L6_1 _ none 0 ([]) none 0 ([]) none 0 ([]) 0 w6 (by omega) (by omega) (by simp) (by simp) (by simp) (fun y hy => by cases hy) (fun y hy => by cases hy) (fun y hy => by cases hy) (okQ_zero _) (st_start _) S10 rfl

end
end Go.Proofs.YtadgnficogeheaaGreatDoor

