/- Walks of functions of this seat, printed by a program over the engine. Conditions: as each theorem says. -/
import Derived.Test.YthhdaackhfffiaaDoorZlD8
import Derived.Test.YthhdaackhfffiaaDoorZlEng13
namespace Go.Proofs.YthhdaackhfffiaaDoor
open Go.Eng Go.RowKit
set_option linter.unusedSimpArgs false
set_option linter.unusedVariables false
abbrev kvD10_1 : List Value := [.string ⟨#[112, 101, 100, 97, 108]⟩, iv 0, iv 1000]
abbrev kvD10_2 : List Value := [.string ⟨#[108, 111, 97, 100]⟩, iv (-500), iv 2000]
abbrev kvD10_3 : List Value := [.string ⟨#[98, 114, 97, 107, 101]⟩, iv 0, iv 1000]
abbrev kvD10_4 : List Value := [.string ⟨#[103, 101, 97, 114]⟩, iv 0, iv 6]
abbrev kvD10_5 : Array Value := #[.string ⟨#[97, 116]⟩, iv 0, iv 1099511627776, .string ⟨#[112, 101, 100, 97, 108]⟩, iv 0, iv 1000, .string ⟨#[98, 114, 97, 107, 101]⟩, iv 0, iv 1000, .string ⟨#[103, 101, 97, 114]⟩, iv 0, iv 6, .string ⟨#[108, 111, 97, 100]⟩, iv (-500), iv 2000]
theorem hb44 : HasBody Tryd.prog 44 := fun _ _ => by kernel_rfl
noncomputable def K44_0 : List Item := adv 5 [] (bodyOf Tryd.f44)
noncomputable def K44_1 : List Item := adv 6 [true] (popK K44_0)
noncomputable def K44_2 : List Item := adv 2 [] (popK (popK (popK K44_1)))
noncomputable def K44_3 : List Item := adv 1 [] (popK K44_2)
set_option maxRecDepth 20000 in
set_option maxHeartbeats 20000000 in
theorem cc_nil (b : Nat) (a : Option Addr) (n c : Nat) (w0 : World) (L0 : List Eng.Claim) (w : World) (S0 : Sep w0 (box b [.pointer none, .slice a n c] 62 :: L0) w) : Ret Tryd.prog 44 #[.pointer (some ⟨b, 0, none⟩)] w (fun v w' => v = .tuple #[] ∧ Sep w0 (box b [.pointer (some ⟨b, 0, none⟩), .slice a n c] 62 :: L0) w') := by
 refine Ret.named fun R hR => ?_
 refine Ret.of_J (N := 20) [(0, .pointer (some ⟨b, 0, none⟩))] Tryd.func44 rfl rfl (Nat.le_of_ble_eq_true (by kernel_rfl)) (by kernel_rfl) ?_
 refine J.run 5 K44_0 [(4, .pointer (some ⟨b, 0, none⟩)), (0, .pointer (some ⟨b, 0, none⟩))] w (by kernel_rfl) ?_
 refine J.ok (OK.ldBox S0 0 5 60 0 (.pointer none) (by kernel_rfl) rfl (by kernel_rfl)) ?_
 refine J.run 6 K44_1 [(8, .pointer (some ⟨b, 0, none⟩)), (7, .pointer (some ⟨b, 0, none⟩))] w (by kernel_rfl) ?_
 refine J.ok (OK.toUnsafe S0 0 9 60 100 62 rfl (by kernel_rfl) (by kernel_rfl) (by kernel_rfl) (by kernel_rfl) (Nat.succ_pos _)) ?_
 refine J.ok (OK.run 10 (.pointer (some ⟨b, 0, none⟩)) (by kernel_rfl)) ?_
 refine J.ok (OK.fromUnsafe S0 0 11 100 60 62 rfl (by kernel_rfl) (by kernel_rfl) (by kernel_rfl) (by kernel_rfl) (by kernel_rfl)) ?_
 refine J.run 2 K44_2 [(13, .pointer (some ⟨b, 0, none⟩)), (11, .pointer (some ⟨b, 0, none⟩))] w (by kernel_rfl) ?_
 refine J.stBox S0 0 60 0 (.pointer (some ⟨b, 0, none⟩)) [.pointer (some ⟨b, 0, none⟩), .slice a n c] (box b [.pointer (some ⟨b, 0, none⟩), .slice a n c] 62 :: L0) (by kernel_rfl) rfl (by kernel_rfl) (by kernel_rfl) rfl ?_
 intro w1 S1
 refine J.run 1 K44_3 [] w1 (by kernel_rfl) ?_
 refine J.done Tryd.f44 [] Tryd.func44 trivial ?_
 refine hR _ _ ?_
 exact ⟨rfl, S1⟩

noncomputable def K44a_0 : List Item := adv 5 [] (bodyOf Tryd.f44)
noncomputable def K44a_1 : List Item := adv 8 [false] (popK K44a_0)
noncomputable def K44a_2 : List Item := adv 1 [] (popK K44a_1)
noncomputable def K44a_3 : List Item := adv 3 [false] (popK K44a_2)
set_option maxRecDepth 20000 in
set_option maxHeartbeats 20000000 in
theorem cc_self (b : Nat) (a : Option Addr) (n c : Nat) (w0 : World) (L0 : List Eng.Claim) (w : World) (S0 : Sep w0 (box b [.pointer (some ⟨b, 0, none⟩), .slice a n c] 62 :: L0) w) : Ret Tryd.prog 44 #[.pointer (some ⟨b, 0, none⟩)] w (fun v w' => v = .tuple #[] ∧ Sep w0 (box b [.pointer (some ⟨b, 0, none⟩), .slice a n c] 62 :: L0) w') := by
 refine Ret.named fun R hR => ?_
 refine Ret.of_J (N := 20) [(0, .pointer (some ⟨b, 0, none⟩))] Tryd.func44 rfl rfl (Nat.le_of_ble_eq_true (by kernel_rfl)) (by kernel_rfl) ?_
 refine J.run 5 K44a_0 [(4, .pointer (some ⟨b, 0, none⟩)), (0, .pointer (some ⟨b, 0, none⟩))] w (by kernel_rfl) ?_
 refine J.ok (OK.ldBox S0 0 5 60 0 (.pointer (some ⟨b, 0, none⟩)) (by kernel_rfl) rfl (by kernel_rfl)) ?_
 refine J.run 8 K44a_1 [(16, .pointer (some ⟨b, 0, none⟩)), (0, .pointer (some ⟨b, 0, none⟩))] w (by kernel_rfl) ?_
 refine J.ok (OK.ldBox S0 0 17 60 0 (.pointer (some ⟨b, 0, none⟩)) (by kernel_rfl) rfl (by kernel_rfl)) ?_
 refine J.run 1 K44a_2 [(18, .pointer (some ⟨b, 0, none⟩)), (17, .pointer (some ⟨b, 0, none⟩))] w (by kernel_rfl) ?_
 refine J.ok (OK.neqSame 19 60 62 ⟨b, 0, none⟩ (by kernel_rfl) (by kernel_rfl) (by kernel_rfl) (by kernel_rfl)) ?_
 refine J.run 3 K44a_3 [] w (by kernel_rfl) ?_
 refine J.done Tryd.f44 [] Tryd.func44 trivial ?_
 refine hR _ _ ?_
 exact ⟨rfl, S0⟩

theorem copycheck_any (b : Nat) (p : Option Addr) (a : Option Addr) (n c : Nat) (w0 : World) (L0 : List Eng.Claim) (w : World) (S0 : Sep w0 (box b [.pointer p, .slice a n c] 62 :: L0) w) (hp : p = none ∨ p = some ⟨b, 0, none⟩) : Ret Tryd.prog 44 #[.pointer (some ⟨b, 0, none⟩)] w (fun v w' => v = .tuple #[] ∧ Sep w0 (box b [.pointer (some ⟨b, 0, none⟩), .slice a n c] 62 :: L0) w') := by
  rcases hp with rfl | rfl
  · exact cc_nil b a n c w0 L0 w S0
  · exact cc_self b a n c w0 L0 w S0
theorem hb31 : HasBody Tryd.prog 31 := fun _ _ => by kernel_rfl
noncomputable def K31_0 : List Item := adv 8 [] (bodyOf Tryd.f31)
noncomputable def K31_1 : List Item := adv 7 [] (popK K31_0)
noncomputable def K31_2 : List Item := adv 1 [] (popK K31_1)
noncomputable def K31_3 : List Item := adv 2 [] (popK K31_2)
noncomputable def K31_4 : List Item := adv 8 [] (popK K31_3)
set_option maxRecDepth 20000 in
set_option maxHeartbeats 20000000 in
theorem bwrite_any (b : Nat) (p : Option Addr) (a : Option Addr) (c : Nat) (x s : ByteArray) (w0 : World) (L0 : List Eng.Claim) (w : World) (S0 : Sep w0 (box b [.pointer p, .slice a ((ls x).length) c] 62 :: rowOf enc8 a c 5 1 (ls x) :: L0) w) (hp : p = none ∨ p = some ⟨b, 0, none⟩) (hx : x.size + s.size ≤ 140737488355328) : Ret Tryd.prog 31 #[.pointer (some ⟨b, 0, none⟩), .string s] w (fun v w' => v = .tuple #[iv (s.size : Int), .nilIface] ∧ ∃ a' c', Sep w0 (box b [.pointer (some ⟨b, 0, none⟩), .slice a' (ls (x ++ s)).length c'] 62 :: rowOf enc8 a' c' 5 1 (ls (x ++ s)) :: L0) w') := by
 refine Ret.named fun R hR => ?_
 refine Ret.of_J (N := 19) [(0, .pointer (some ⟨b, 0, none⟩)), (1, .string s)] Tryd.func31 rfl rfl (Nat.le_of_ble_eq_true (by kernel_rfl)) (by kernel_rfl) ?_
 have hlx := ls_length x
 refine J.run 8 K31_0 [(6, .pointer (some ⟨b, 0, none⟩)), (0, .pointer (some ⟨b, 0, none⟩)), (1, .string s)] w (by kernel_rfl) ?_
 have S1 : Sep w0 (box b [.pointer p, .slice a ((ls x).length) c] 62 :: rowOf enc8 a c 5 1 (ls x) :: L0) w := S0.front 0 rfl
 refine J.callF 7 44 #[.pointer (some ⟨b, 0, none⟩)] hb44 (by kernel_rfl) (copycheck_any b p a ((ls x).length) c _ _ _ S1 (by first | assumption | exact .inl rfl | exact .inr rfl)) ?_
 rintro _ w1 ⟨rfl, S2⟩
 replace S2 : Sep w0 (box b [.pointer (some ⟨b, 0, none⟩), .slice a ((ls x).length) c] 62 :: rowOf enc8 a c 5 1 (ls x) :: L0) w1 := S2
 refine J.run 7 K31_1 [(11, .pointer (some ⟨b, 1, none⟩)), (8, .pointer (some ⟨b, 0, none⟩)), (1, .string s)] w1 (by kernel_rfl) ?_
 refine J.ok (OK.ldBox S2 0 12 45 1 (.slice a ((ls x).length) c) (by kernel_rfl) rfl (by kernel_rfl)) ?_
 refine J.run 1 K31_2 [(13, .string s), (12, .slice a ((ls x).length) c), (8, .pointer (some ⟨b, 0, none⟩)), (1, .string s)] w1 (by kernel_rfl) ?_
 refine J.appStr S2 1 x s 14 45 9 rfl (by kernel_rfl) (by kernel_rfl) (by kernel_rfl) (by rfl) (by first | omega | (simp only [ByteArray.size_append]; omega) | (simp only [ByteArray.size_append, lit_size, List.size_toArray, List.length_cons, List.length_nil]; omega) | (simp; omega)) ?_
 intro ra1 rc1 w2 S3
 replace S3 : Sep w0 (box b [.pointer (some ⟨b, 0, none⟩), .slice a ((ls x).length) c] 62 :: rowOf enc8 ra1 rc1 5 1 (ls (x ++ s)) :: L0) w2 := S3
 refine J.run 2 K31_3 [(16, .pointer (some ⟨b, 1, none⟩)), (14, .slice ra1 ((ls (x ++ s)).length) rc1), (1, .string s)] w2 (by kernel_rfl) ?_
 refine J.stBox S3 0 45 1 (.slice ra1 ((ls (x ++ s)).length) rc1) [.pointer (some ⟨b, 0, none⟩), .slice ra1 ((ls (x ++ s)).length) rc1] (box b [.pointer (some ⟨b, 0, none⟩), .slice ra1 ((ls (x ++ s)).length) rc1] 62 :: rowOf enc8 ra1 rc1 5 1 (ls (x ++ s)) :: L0) (by kernel_rfl) rfl (by kernel_rfl) (by kernel_rfl) rfl ?_
 intro w3 S4
 refine J.run 8 K31_4 [(5, .nilIface), (4, iv (s.size : Int))] w3 (by kernel_rfl) ?_
 refine J.ret Tryd.f31 [iv (s.size : Int), .nilIface] Tryd.func31 ⟨by kernel_rfl, by kernel_rfl, trivial⟩ ?_
 refine hR _ _ ?_
 exact ⟨rfl, _, _, S4⟩

theorem hb33 : HasBody Tryd.prog 33 := fun _ _ => by kernel_rfl
theorem bstring_any (b : Nat) (p : Option Addr) (a : Option Addr) (c : Nat) (x : ByteArray) (w0 : World) (L0 : List Eng.Claim) (w : World) (S0 : Sep w0 (box b [.pointer p, .slice a (ls x).length c] 62 :: rowOf enc8 a c 5 1 (ls x) :: L0) w) (hp : p = none ∨ p = some ⟨b, 0, none⟩) (ho : Offs 5 L0) : Ret Tryd.prog 33 #[.pointer (some ⟨b, 0, none⟩)] w (fun v w' => v = .string x ∧ Sep w0 L0 w') :=
  Ret.of_calls (Tryd.Builder_String_any_k w0.heap.size b (ls x) w (S0.builder hp) S0.below.size) fun w' h => ⟨congrArg Value.string (ls_inj (ls_mk _)), S0.others rfl ho h.2.1 h.2.2⟩
/-! the text of a drive -/
theorem size_app (a b : ByteArray) : (a ++ b).size = a.size + b.size := by rw [← ls_length, ls_append, List.length_append, ls_length, ls_length]
def lineD (d : Dr) (t : ByteArray) : ByteArray := (((((((((t ++ ((⟨#[97, 116, 32]⟩ : ByteArray) ++ itoaB d.gAt)) ++ (⟨#[32]⟩ : ByteArray)) ++ ((⟨#[112, 101, 100, 97, 108, 32]⟩ : ByteArray) ++ itoaB d.gPedal)) ++ (⟨#[32]⟩ : ByteArray)) ++ ((⟨#[98, 114, 97, 107, 101, 32]⟩ : ByteArray) ++ itoaB d.gBrake)) ++ (⟨#[32]⟩ : ByteArray)) ++ ((⟨#[103, 101, 97, 114, 32]⟩ : ByteArray) ++ itoaB d.gGear)) ++ (⟨#[32]⟩ : ByteArray)) ++ ((⟨#[108, 111, 97, 100, 32]⟩ : ByteArray) ++ itoaB d.gLoad)) ++ (⟨#[10]⟩ : ByteArray)
def linesD (l : List Dr) : Nat → ByteArray
  | 0 => ByteArray.empty
  | i + 1 => lineD (l.getD i dr0) (linesD l i)
theorem lines_succ {l : List Dr} {i : Int} {t : ByteArray} (h0 : 0 ≤ i) (ht : t = linesD l i.toNat) : linesD l (i + 1).toNat = lineD (l.getD i.toNat dr0) t := by
  rw [ht, show (i + 1).toNat = i.toNat + 1 by omega]; rfl
def textE (l : List Dr) : Int := if validD l then 0 else 1
def textD (l : List Dr) : ByteArray := if validD l then linesD l l.length else ByteArray.empty
theorem texte_yes {l : List Dr} (h : validD l = true) : textE l = 0 := by unfold textE; rw [h]; rfl
theorem texte_no {l : List Dr} (h : validD l = false) : textE l = 1 := by unfold textE; rw [h]; rfl
theorem text_yes {l : List Dr} (h : validD l = true) : textD l = linesD l l.length := by unfold textD; rw [h]; rfl
theorem text_no {l : List Dr} (h : validD l = false) : textD l = ByteArray.empty := by unfold textD; rw [h]; rfl
theorem num_size {n : Int} (h : -9223372036854775808 ≤ n ∧ n ≤ 9223372036854775807) : (itoaB n).size ≤ 24 := (par_facts (text_par h).1).1
theorem num_sizes {d : Dr} (h : (0 ≤ d.gAt ∧ d.gAt ≤ 1099511627776) ∧ (0 ≤ d.gPedal ∧ d.gPedal ≤ 1000) ∧ (0 ≤ d.gBrake ∧ d.gBrake ≤ 1000) ∧ (0 ≤ d.gGear ∧ d.gGear ≤ 6) ∧ (-500 ≤ d.gLoad ∧ d.gLoad ≤ 2000)) : (itoaB d.gAt).size ≤ 24 ∧ (itoaB d.gPedal).size ≤ 24 ∧ (itoaB d.gBrake).size ≤ 24 ∧ (itoaB d.gGear).size ≤ 24 ∧ (itoaB d.gLoad).size ≤ 24 :=
  ⟨num_size (by omega), num_size (by omega), num_size (by omega), num_size (by omega), num_size (by omega)⟩
theorem text_room {l : List Dr} (hv : validD l = true) : ∀ (i : Nat), i ≤ l.length → (linesD l i).size ≤ 160 * i
  | 0, _ => Nat.le_refl _
  | i + 1, h => by
    have h1 := text_room hv i (by omega)
    obtain ⟨z0, z1, z2, z3, z4⟩ := num_sizes (val_at hv (j := i) (by omega))
    show (lineD _ _).size ≤ _
    unfold lineD
    simp only [size_app]
    have e1 : (⟨#[97, 116, 32]⟩ : ByteArray).size = 3 := rfl
    have e2 : (⟨#[112, 101, 100, 97, 108, 32]⟩ : ByteArray).size = 6 := rfl
    have e3 : (⟨#[98, 114, 97, 107, 101, 32]⟩ : ByteArray).size = 6 := rfl
    have e4 : (⟨#[103, 101, 97, 114, 32]⟩ : ByteArray).size = 5 := rfl
    have e5 : (⟨#[108, 111, 97, 100, 32]⟩ : ByteArray).size = 5 := rfl
    have e6 : (⟨#[32]⟩ : ByteArray).size = 1 := rfl
    have e7 : (⟨#[10]⟩ : ByteArray).size = 1 := rfl
    omega

theorem hb17 : HasBody Tryd.prog 17 := fun _ _ => by kernel_rfl
noncomputable def K17_0 : List Item := adv 9 [] (bodyOf Tryd.f17)
noncomputable def K17_1 : List Item := adv 2 [] (popK K17_0)
noncomputable def K17_2 : List Item := adv 4 [false] K17_1
noncomputable def K17_3 : List Item := adv 10 [] (popK K17_2)
noncomputable def K17_4 : List Item := adv 5 [] K17_3
noncomputable def K17_5 : List Item := adv 6 [true] K17_4
noncomputable def K17_6 : List Item := adv 3 [] (popK (popK (popK (popK K17_5))))
noncomputable def K17_7 : List Item := adv 4 [] (popK (popK (popK (popK K17_6))))
noncomputable def K17_8 : List Item := adv 17 [true] (popK K17_7)
noncomputable def K17_9 : List Item := adv 1 [] (popK K17_8)
noncomputable def K17_10 : List Item := adv 9 [false] (popK K17_9)
noncomputable def K17_11 : List Item := adv 6 [] (rRest K17_10)
noncomputable def K17_12 : List Item := adv 13 [true] K17_11
noncomputable def K17_13 : List Item := adv 1 [] (popK K17_12)
noncomputable def K17_14 : List Item := adv 9 [true] (popK K17_13)
noncomputable def K17_15 : List Item := adv 1 [] (popK K17_14)
noncomputable def K17_16 : List Item := adv 6 [] (rRest K17_15)
noncomputable def K17_17 : List Item := adv 13 [true] K17_16
noncomputable def K17_18 : List Item := adv 1 [] (popK K17_17)
noncomputable def K17_19 : List Item := adv 9 [true] (popK K17_18)
noncomputable def K17_20 : List Item := adv 1 [] (popK K17_19)
noncomputable def K17_21 : List Item := adv 6 [] (rRest K17_20)
noncomputable def K17_22 : List Item := adv 13 [true] K17_21
noncomputable def K17_23 : List Item := adv 1 [] (popK K17_22)
noncomputable def K17_24 : List Item := adv 9 [true] (popK K17_23)
noncomputable def K17_25 : List Item := adv 1 [] (popK K17_24)
noncomputable def K17_26 : List Item := adv 6 [] (rRest K17_25)
noncomputable def K17_27 : List Item := adv 13 [true] K17_26
noncomputable def K17_28 : List Item := adv 1 [] (popK K17_27)
noncomputable def K17_29 : List Item := adv 9 [true] (popK K17_28)
noncomputable def K17_30 : List Item := adv 1 [] (popK K17_29)
noncomputable def K17_31 : List Item := adv 6 [] (rRest K17_30)
noncomputable def K17_32 : List Item := adv 8 [false] K17_31
noncomputable def K17_33 : List Item := adv 4 [] (popK K17_32)
noncomputable def K17_34 : List Item := adv 4 [false] K17_4
noncomputable def K17_35 : List Item := adv 3 [] (popK K17_34)
noncomputable def K17_36 : List Item := adv 6 [true] K17_1
set_option maxRecDepth 20000 in
set_option maxHeartbeats 20000000 in
theorem text_any (a : Option Addr) (n c : Nat) (l : List Dr) (w : World) (hl : Recs drE 5 w a n l) (hW : TabW w) : Ret Tryd.prog 17 #[.slice a n c] w (fun v w' => v = .tuple #[.string (textD l), iv (textE l)] ∧ Sep w [] w') := by
 have S0 := Sep.refl w
 refine Ret.named fun R hR => ?_
 refine Ret.of_J (N := 42) [(0, .slice a n c)] Tryd.func17 rfl rfl (Nat.le_of_ble_eq_true (by kernel_rfl)) (by kernel_rfl) ?_
 have hll := hl.len_eq
 refine J.run 9 K17_0 [(10, .slice a n c), (0, .slice a n c)] w (by kernel_rfl) ?_
 refine J.callF 11 9 #[.slice a n c] hb9 (by kernel_rfl) (valid_any a n c l _ (hl.sep S0)) ?_
 rintro _ w1 ⟨rfl, T1⟩
 have S1 : Sep w [] w1 := S0.trans T1
 clear T1
 refine J.run 2 K17_1 [(12, .bool (!(validD l))), (0, .slice a n c)] w1 (by kernel_rfl) ?_
 rcases Bool.eq_false_or_eq_true (validD l) with fk1 | fk1
 ·skip
  refine J.head (.bool false) (congrArg Value.bool (by rw [fk1]; rfl)) ?_
  have hv := fk1
  have hvl := (valid_iff.1 hv).1
  refine J.run 4 K17_2 [(0, .slice a n c)] w1 (by kernel_rfl) ?_
  refine J.new S1 4 [.pointer none, .slice none 0 0] 62 (by kernel_rfl) ?_
  intro b1 w2 S2
  refine J.run 10 K17_3 [(15, iv 0), (14, iv (n : Int)), (13, .slice a n c), (4, .pointer (some ⟨b1, 0, none⟩))] w2 (by kernel_rfl) ?_
  have S3 : Sep w [rowOf enc8 none 0 5 1 (ls ByteArray.empty), box b1 [.pointer none, .slice none 0 0] 62] w2 := S2.nilRow 5 1
  have L17_1 : ∀ (mm_ : Nat) (pp : Option Addr) (ra : Option Addr) (rc : Nat) (t : ByteArray) (i : Int) (w3 : World), (0 ≤ i) → (i ≤ (n : Int)) → (pp = none ∨ pp = some ⟨b1, 0, none⟩) → (t = linesD l (i).toNat) → Sep w [rowOf enc8 ra rc 5 1 (ls t), box b1 [.pointer pp, .slice ra ((ls t).length) rc] 62] w3 → ((n : Int) - i).toNat = mm_ → J Tryd.prog 17 42 R K17_3 [(15, iv i), (14, iv (n : Int)), (13, .slice a n c), (4, .pointer (some ⟨b1, 0, none⟩))] w3 := by
   intro mm1
   induction mm1 using Nat.strongRecOn with
   | _ mm1 ih1 =>
   intro pp ra rc t i w3 h0 h1 hpp ht S4 hm1
   refine J.run 5 K17_4 [(16, .bool (decide (i < (n : Int)))), (15, iv i), (14, iv (n : Int)), (13, .slice a n c), (4, .pointer (some ⟨b1, 0, none⟩))] w3 (by kernel_rfl) ?_
   by_cases fk2 : i < (n : Int)
   ·skip
    refine J.head (.bool true) (congrArg Value.bool (decide_eq_true fk2)) ?_
    have hga := val_at hv (j := i.toNat) (by omega)
    have hts := text_room hv i.toNat (by omega)
    rw [← ht] at hts
    obtain ⟨hz0, hz1, hz2, hz3, hz4⟩ := num_sizes hga
    refine J.run 6 K17_5 [(15, iv i), (14, iv (n : Int)), (13, .slice a n c), (4, .pointer (some ⟨b1, 0, none⟩))] w3 (by kernel_rfl) ?_
    obtain ⟨p1, hp1, hc1⟩ := hl.at dr0 (i).toNat (by omega)
    refine J.ok (OK.index 17 22 5 a p1 n (i).toNat i (p1.add ((i).toNat * 5)) (by kernel_rfl) (by kernel_rfl) hp1 (by omega) (by omega) rfl) ?_
    refine J.ok (OK.ldCells 18 27 (p1.add ((i).toNat * 5)) [iv ((l.getD (i).toNat dr0).gAt), iv ((l.getD (i).toNat dr0).gPedal), iv ((l.getD (i).toNat dr0).gBrake), iv ((l.getD (i).toNat dr0).gGear), iv ((l.getD (i).toNat dr0).gLoad)] (by kernel_rfl) (by kernel_rfl) (by kernel_rfl) (fun j_ v_ hj_ => S4.cell (hc1 j_ v_ hj_))) ?_
    refine J.new S4 6 [iv 0, iv 0, iv 0, iv 0, iv 0] 27 (by kernel_rfl) ?_
    intro b2 w4 S5
    refine J.stBox S5 0 27 0 (.agg #[iv ((l.getD (i).toNat dr0).gAt), iv ((l.getD (i).toNat dr0).gPedal), iv ((l.getD (i).toNat dr0).gBrake), iv ((l.getD (i).toNat dr0).gGear), iv ((l.getD (i).toNat dr0).gLoad)]) [iv ((l.getD (i).toNat dr0).gAt), iv ((l.getD (i).toNat dr0).gPedal), iv ((l.getD (i).toNat dr0).gBrake), iv ((l.getD (i).toNat dr0).gGear), iv ((l.getD (i).toNat dr0).gLoad)] [box b2 [iv ((l.getD (i).toNat dr0).gAt), iv ((l.getD (i).toNat dr0).gPedal), iv ((l.getD (i).toNat dr0).gBrake), iv ((l.getD (i).toNat dr0).gGear), iv ((l.getD (i).toNat dr0).gLoad)] 27, rowOf enc8 ra rc 5 1 (ls t), box b1 [.pointer pp, .slice ra ((ls t).length) rc] 62] (by kernel_rfl) rfl (by kernel_rfl) (by kernel_rfl) rfl ?_
    intro w5 S6
    refine J.run 3 K17_6 [(6, .pointer (some ⟨b2, 0, none⟩)), (15, iv i), (14, iv (n : Int)), (13, .slice a n c), (4, .pointer (some ⟨b1, 0, none⟩))] w5 (by kernel_rfl) ?_
    refine J.ok (OK.ldBox S6 0 19 27 0 (.agg #[iv ((l.getD (i).toNat dr0).gAt), iv ((l.getD (i).toNat dr0).gPedal), iv ((l.getD (i).toNat dr0).gBrake), iv ((l.getD (i).toNat dr0).gGear), iv ((l.getD (i).toNat dr0).gLoad)]) (by kernel_rfl) rfl (by kernel_rfl)) ?_
    refine J.callF 20 23 #[.agg #[iv ((l.getD (i).toNat dr0).gAt), iv ((l.getD (i).toNat dr0).gPedal), iv ((l.getD (i).toNat dr0).gBrake), iv ((l.getD (i).toNat dr0).gGear), iv ((l.getD (i).toNat dr0).gLoad)]] hb23 (by kernel_rfl) (numbers_any (l.getD (i).toNat dr0) _) ?_
    rintro _ w6 ⟨rfl, T2⟩
    have S7 : Sep w [box b2 [iv ((l.getD (i).toNat dr0).gAt), iv ((l.getD (i).toNat dr0).gPedal), iv ((l.getD (i).toNat dr0).gBrake), iv ((l.getD (i).toNat dr0).gGear), iv ((l.getD (i).toNat dr0).gLoad)] 27, rowOf enc8 ra rc 5 1 (ls t), box b1 [.pointer pp, .slice ra ((ls t).length) rc] 62] w6 := S6.trans T2
    clear T2 S6
    refine J.new S7 7 [iv 0, iv 0, iv 0, iv 0, iv 0] 48 (by kernel_rfl) ?_
    intro b3 w7 S8
    refine J.stBox S8 0 48 0 (.agg #[iv (((l.getD (i).toNat dr0)).gAt), iv (((l.getD (i).toNat dr0)).gPedal), iv (((l.getD (i).toNat dr0)).gBrake), iv (((l.getD (i).toNat dr0)).gGear), iv (((l.getD (i).toNat dr0)).gLoad)]) [iv (((l.getD (i).toNat dr0)).gAt), iv (((l.getD (i).toNat dr0)).gPedal), iv (((l.getD (i).toNat dr0)).gBrake), iv (((l.getD (i).toNat dr0)).gGear), iv (((l.getD (i).toNat dr0)).gLoad)] [box b3 [iv (((l.getD (i).toNat dr0)).gAt), iv (((l.getD (i).toNat dr0)).gPedal), iv (((l.getD (i).toNat dr0)).gBrake), iv (((l.getD (i).toNat dr0)).gGear), iv (((l.getD (i).toNat dr0)).gLoad)] 48, box b2 [iv ((l.getD (i).toNat dr0).gAt), iv ((l.getD (i).toNat dr0).gPedal), iv ((l.getD (i).toNat dr0).gBrake), iv ((l.getD (i).toNat dr0).gGear), iv ((l.getD (i).toNat dr0).gLoad)] 27, rowOf enc8 ra rc 5 1 (ls t), box b1 [.pointer pp, .slice ra ((ls t).length) rc] 62] (by kernel_rfl) rfl (by kernel_rfl) (by kernel_rfl) rfl ?_
    intro w8 S9
    refine J.run 4 K17_7 [(7, .pointer (some ⟨b3, 0, none⟩)), (15, iv i), (14, iv (n : Int)), (13, .slice a n c), (4, .pointer (some ⟨b1, 0, none⟩))] w8 (by kernel_rfl) ?_
    refine J.callF 21 24 #[] hb24 (by kernel_rfl) (parts_any  _) ?_
    rintro _ w9 ⟨rfl, T3⟩
    have S10 : Sep w [box b3 [iv (((l.getD (i).toNat dr0)).gAt), iv (((l.getD (i).toNat dr0)).gPedal), iv (((l.getD (i).toNat dr0)).gBrake), iv (((l.getD (i).toNat dr0)).gGear), iv (((l.getD (i).toNat dr0)).gLoad)] 48, box b2 [iv ((l.getD (i).toNat dr0).gAt), iv ((l.getD (i).toNat dr0).gPedal), iv ((l.getD (i).toNat dr0).gBrake), iv ((l.getD (i).toNat dr0).gGear), iv ((l.getD (i).toNat dr0).gLoad)] 27, rowOf enc8 ra rc 5 1 (ls t), box b1 [.pointer pp, .slice ra ((ls t).length) rc] 62] w9 := S9.trans T3
    clear T3 S9
    refine J.run 17 K17_8 [(25, .agg #[.string ⟨#[97, 116]⟩, iv 0, iv 1099511627776]), (24, iv 0), (22, iv 0), (21, .agg kvD10_5), (7, .pointer (some ⟨b3, 0, none⟩)), (15, iv i), (14, iv (n : Int)), (13, .slice a n c), (4, .pointer (some ⟨b1, 0, none⟩))] w9 (by kernel_rfl) ?_
    refine J.new S10 9 [.string ByteArray.empty, iv 0, iv 0] 51 (by kernel_rfl) ?_
    intro b4 w10 S11
    refine J.run 1 K17_9 [(8, iv 0), (9, .pointer (some ⟨b4, 0, none⟩)), (25, .agg #[.string ⟨#[97, 116]⟩, iv 0, iv 1099511627776]), (22, iv 0), (21, .agg kvD10_5), (7, .pointer (some ⟨b3, 0, none⟩)), (15, iv i), (14, iv (n : Int)), (13, .slice a n c), (4, .pointer (some ⟨b1, 0, none⟩))] w10 (by kernel_rfl) ?_
    refine J.stBox S11 0 51 0 (.agg #[.string ⟨#[97, 116]⟩, iv 0, iv 1099511627776]) [.string ⟨#[97, 116]⟩, iv 0, iv 1099511627776] [box b4 [.string ⟨#[97, 116]⟩, iv 0, iv 1099511627776] 51, box b3 [iv (((l.getD (i).toNat dr0)).gAt), iv (((l.getD (i).toNat dr0)).gPedal), iv (((l.getD (i).toNat dr0)).gBrake), iv (((l.getD (i).toNat dr0)).gGear), iv (((l.getD (i).toNat dr0)).gLoad)] 48, box b2 [iv ((l.getD (i).toNat dr0).gAt), iv ((l.getD (i).toNat dr0).gPedal), iv ((l.getD (i).toNat dr0).gBrake), iv ((l.getD (i).toNat dr0).gGear), iv ((l.getD (i).toNat dr0).gLoad)] 27, rowOf enc8 ra rc 5 1 (ls t), box b1 [.pointer pp, .slice ra ((ls t).length) rc] 62] (by kernel_rfl) rfl (by kernel_rfl) (by kernel_rfl) rfl ?_
    intro w11 S12
    refine J.run 9 K17_10 [(8, iv 0), (9, .pointer (some ⟨b4, 0, none⟩)), (22, iv 0), (21, .agg kvD10_5), (7, .pointer (some ⟨b3, 0, none⟩)), (15, iv i), (14, iv (n : Int)), (13, .slice a n c), (4, .pointer (some ⟨b1, 0, none⟩))] w11 (by kernel_rfl) ?_
    refine J.drawPlan (fun w_ => Sep w [box b4 [.string ⟨#[97, 116]⟩, iv 0, iv 1099511627776] 51, box b3 [iv (((l.getD (i).toNat dr0)).gAt), iv (((l.getD (i).toNat dr0)).gPedal), iv (((l.getD (i).toNat dr0)).gBrake), iv (((l.getD (i).toNat dr0)).gGear), iv (((l.getD (i).toNat dr0)).gLoad)] 48, box b2 [iv ((l.getD (i).toNat dr0).gAt), iv ((l.getD (i).toNat dr0).gPedal), iv ((l.getD (i).toNat dr0).gBrake), iv ((l.getD (i).toNat dr0).gGear), iv ((l.getD (i).toNat dr0).gLoad)] 27] w_) [(0, true), (1, true), (2, true), (3, true), (4, true), (5, true), (6, false), (7, true), (8, false)] S12 Tryd.mixed (by kernel_rfl) (planOK_of (T := [(0, some 29, 512), (1, some 30, 536870912), (2, some 31, 1073741824), (0, some 32, 256), (8, some 33, 4294967424), (16, some 34, 8589934592), (32, some 35, 17179869184), (68, some 36, 36507222016), (192, some 37, 68719476752)]) (by kernel_rfl) (by kernel_rfl)) ?_
    intro w12 S13
    refine PB.mk ((S13.erase 4).erase 3) ?_
    refine PL.take 0 29 (.pointer (some ⟨b4, 0, none⟩)) (fun _ _ => by kernel_rfl) ?_
    refine PL.takeOK 1 (fun w_ S_ => OK.ldBox S_ 0 30 9 0 (.string ⟨#[97, 116]⟩) (by kernel_rfl) rfl (by kernel_rfl)) rfl ?_
    refine PL.takeOK 2 (fun w_ S_ => OK.cat 31 (⟨#[97, 116]⟩) (⟨#[32]⟩) (⟨#[97, 116, 32]⟩) (by kernel_rfl) (by first | decide | (simp only [lit_size, List.size_toArray, List.length_cons, List.length_nil]; omega)) (by decide +kernel)) rfl ?_
    refine PL.take 3 32 (iv 0) (fun _ _ => by kernel_rfl) ?_
    refine PL.takeOK 4 (fun w_ S_ => OK.indexP 33 48 5 1 b3 0 0 0 (by kernel_rfl) (by kernel_rfl) (by omega) (by omega)) rfl ?_
    refine PL.head (.pointer (some ⟨b3, 0, none⟩)) (by first | rfl | (rw [Nat.zero_add, Nat.mul_one])) ?_
    refine PL.takeOK 5 (fun w_ S_ => OK.ldBox S_ 1 34 3 0 (iv (((l.getD (i).toNat dr0)).gAt)) (by kernel_rfl) rfl (by kernel_rfl)) rfl ?_
    refine PL.callF 35 32 #[iv (((l.getD (i).toNat dr0)).gAt)] hb32 (by kernel_rfl) (atext_any (((l.getD (i).toNat dr0)).gAt) _ (by omega) (tabW_sep hW S13)) ?_
    rintro _ w13 ⟨rfl, T4⟩
    have S14 : Sep w [box b4 [.string ⟨#[97, 116]⟩, iv 0, iv 1099511627776] 51, box b3 [iv (((l.getD (i).toNat dr0)).gAt), iv (((l.getD (i).toNat dr0)).gPedal), iv (((l.getD (i).toNat dr0)).gBrake), iv (((l.getD (i).toNat dr0)).gGear), iv (((l.getD (i).toNat dr0)).gLoad)] 48, box b2 [iv ((l.getD (i).toNat dr0).gAt), iv ((l.getD (i).toNat dr0).gPedal), iv ((l.getD (i).toNat dr0).gBrake), iv ((l.getD (i).toNat dr0).gGear), iv ((l.getD (i).toNat dr0).gLoad)] 27, rowOf enc8 ra rc 5 1 (ls t), box b1 [.pointer pp, .slice ra ((ls t).length) rc] 62] w13 := S13.trans T4
    clear T4 S13
    have := itoaB_size (n := (((l.getD (i).toNat dr0)).gAt)) (by omega)
    refine PB.mk ((S14.erase 4).erase 3) ?_
    refine PL.takeOK 7 (fun w_ S_ => OK.cat 36 (⟨#[97, 116, 32]⟩ : ByteArray) (itoaB (((l.getD (i).toNat dr0)).gAt)) ((⟨#[97, 116, 32]⟩ : ByteArray) ++ (itoaB (((l.getD (i).toNat dr0)).gAt))) (by kernel_rfl) (by first | decide | (simp only [lit_size, List.size_toArray, List.length_cons, List.length_nil]; omega)) (rfl)) rfl ?_
    have S15 := S14.front 3 rfl
    clear S14
    have S16 : Sep w [box b1 [.pointer pp, .slice ra ((ls t).length) rc] 62, rowOf enc8 ra rc 5 1 (ls t), box b4 [.string ⟨#[97, 116]⟩, iv 0, iv 1099511627776] 51, box b3 [iv (((l.getD (i).toNat dr0)).gAt), iv (((l.getD (i).toNat dr0)).gPedal), iv (((l.getD (i).toNat dr0)).gBrake), iv (((l.getD (i).toNat dr0)).gGear), iv (((l.getD (i).toNat dr0)).gLoad)] 48, box b2 [iv ((l.getD (i).toNat dr0).gAt), iv ((l.getD (i).toNat dr0).gPedal), iv ((l.getD (i).toNat dr0).gBrake), iv ((l.getD (i).toNat dr0).gGear), iv ((l.getD (i).toNat dr0).gLoad)] 27] w13 := S15.front 4 rfl
    clear S15
    have hz1 : ((⟨#[97, 116, 32]⟩ : ByteArray) ++ (itoaB (((l.getD (i).toNat dr0)).gAt))).size ≤ 48 := by rw [size_app]; show 3 + _ ≤ 48; clear hga hll; omega
    refine PL.callF 37 31 #[.pointer (some ⟨b1, 0, none⟩), .string ((⟨#[97, 116, 32]⟩ : ByteArray) ++ (itoaB (((l.getD (i).toNat dr0)).gAt)))] hb31 (by kernel_rfl) (bwrite_any b1 pp ra rc t ((⟨#[97, 116, 32]⟩ : ByteArray) ++ (itoaB (((l.getD (i).toNat dr0)).gAt))) _ _ _ S16 (by first | assumption | exact .inl rfl | exact .inr rfl) (by omega)) ?_
    obtain ⟨tt1, htt1⟩ : ∃ y : ByteArray, y = t ++ ((⟨#[97, 116, 32]⟩ : ByteArray) ++ (itoaB (((l.getD (i).toNat dr0)).gAt))) := ⟨_, rfl⟩
    have hstt1 : tt1.size = t.size + ((⟨#[97, 116, 32]⟩ : ByteArray) ++ (itoaB (((l.getD (i).toNat dr0)).gAt))).size := by rw [htt1]; exact size_app _ _
    rintro _ w14 ⟨rfl, ra1, rc1, S17⟩
    rw [show t ++ ((⟨#[97, 116, 32]⟩ : ByteArray) ++ (itoaB (((l.getD (i).toNat dr0)).gAt))) = tt1 from htt1.symm] at S17
    replace S17 : Sep w [box b1 [.pointer (some ⟨b1, 0, none⟩), .slice ra1 ((ls tt1).length) rc1] 62, rowOf enc8 ra1 rc1 5 1 (ls tt1), box b4 [.string ⟨#[97, 116]⟩, iv 0, iv 1099511627776] 51, box b3 [iv (((l.getD (i).toNat dr0)).gAt), iv (((l.getD (i).toNat dr0)).gPedal), iv (((l.getD (i).toNat dr0)).gBrake), iv (((l.getD (i).toNat dr0)).gGear), iv (((l.getD (i).toNat dr0)).gLoad)] 48, box b2 [iv ((l.getD (i).toNat dr0).gAt), iv ((l.getD (i).toNat dr0).gPedal), iv ((l.getD (i).toNat dr0).gBrake), iv ((l.getD (i).toNat dr0).gGear), iv ((l.getD (i).toNat dr0).gLoad)] 27] w14 := S17
    have S18 := S17.front 1 rfl
    clear S17
    have S19 := S18.front 4 rfl
    clear S18
    have S20 := S19.front 4 rfl
    clear S19
    have S21 : Sep w [box b4 [.string ⟨#[97, 116]⟩, iv 0, iv 1099511627776] 51, box b3 [iv (((l.getD (i).toNat dr0)).gAt), iv (((l.getD (i).toNat dr0)).gPedal), iv (((l.getD (i).toNat dr0)).gBrake), iv (((l.getD (i).toNat dr0)).gGear), iv (((l.getD (i).toNat dr0)).gLoad)] 48, box b2 [iv ((l.getD (i).toNat dr0).gAt), iv ((l.getD (i).toNat dr0).gPedal), iv ((l.getD (i).toNat dr0).gBrake), iv ((l.getD (i).toNat dr0).gGear), iv ((l.getD (i).toNat dr0).gLoad)] 27, rowOf enc8 ra1 rc1 5 1 (ls tt1), box b1 [.pointer (some ⟨b1, 0, none⟩), .slice ra1 ((ls tt1).length) rc1] 62] w14 := S20.front 4 rfl
    clear S20
    refine PB.mk ((S21.erase 4).erase 3) ?_
    refine PL.done ?_
    refine J.run 0 (rRest K17_10) [(22, iv 0), (21, .agg kvD10_5), (7, .pointer (some ⟨b3, 0, none⟩)), (15, iv i), (14, iv (n : Int)), (13, .slice a n c), (4, .pointer (some ⟨b1, 0, none⟩))] w14 (by kernel_rfl) ?_
    refine J.run 6 K17_11 [(22, iv 1), (21, .agg kvD10_5), (7, .pointer (some ⟨b3, 0, none⟩)), (15, iv i), (14, iv (n : Int)), (13, .slice a n c), (4, .pointer (some ⟨b1, 0, none⟩))] w14 (by kernel_rfl) ?_
    have S22 : Sep w [box b3 [iv (((l.getD (i).toNat dr0)).gAt), iv (((l.getD (i).toNat dr0)).gPedal), iv (((l.getD (i).toNat dr0)).gBrake), iv (((l.getD (i).toNat dr0)).gGear), iv (((l.getD (i).toNat dr0)).gLoad)] 48, box b2 [iv ((l.getD (i).toNat dr0).gAt), iv ((l.getD (i).toNat dr0).gPedal), iv ((l.getD (i).toNat dr0).gBrake), iv ((l.getD (i).toNat dr0).gGear), iv ((l.getD (i).toNat dr0).gLoad)] 27, rowOf enc8 ra1 rc1 5 1 (ls tt1), box b1 [.pointer (some ⟨b1, 0, none⟩), .slice ra1 ((ls tt1).length) rc1] 62] w14 := S21.erase 0
    clear S21
    refine J.run 13 K17_12 [(25, .agg #[.string ⟨#[112, 101, 100, 97, 108]⟩, iv 0, iv 1000]), (24, iv 1), (22, iv 1), (21, .agg kvD10_5), (7, .pointer (some ⟨b3, 0, none⟩)), (15, iv i), (14, iv (n : Int)), (13, .slice a n c), (4, .pointer (some ⟨b1, 0, none⟩))] w14 (by kernel_rfl) ?_
    refine J.new S22 9 [.string ByteArray.empty, iv 0, iv 0] 51 (by kernel_rfl) ?_
    intro b5 w15 S23
    refine J.run 1 K17_13 [(8, iv 1), (9, .pointer (some ⟨b5, 0, none⟩)), (25, .agg #[.string ⟨#[112, 101, 100, 97, 108]⟩, iv 0, iv 1000]), (22, iv 1), (21, .agg kvD10_5), (7, .pointer (some ⟨b3, 0, none⟩)), (15, iv i), (14, iv (n : Int)), (13, .slice a n c), (4, .pointer (some ⟨b1, 0, none⟩))] w15 (by kernel_rfl) ?_
    refine J.stBox S23 0 51 0 (.agg #[.string ⟨#[112, 101, 100, 97, 108]⟩, iv 0, iv 1000]) kvD10_1 [box b5 kvD10_1 51, box b3 [iv (((l.getD (i).toNat dr0)).gAt), iv (((l.getD (i).toNat dr0)).gPedal), iv (((l.getD (i).toNat dr0)).gBrake), iv (((l.getD (i).toNat dr0)).gGear), iv (((l.getD (i).toNat dr0)).gLoad)] 48, box b2 [iv ((l.getD (i).toNat dr0).gAt), iv ((l.getD (i).toNat dr0).gPedal), iv ((l.getD (i).toNat dr0).gBrake), iv ((l.getD (i).toNat dr0).gGear), iv ((l.getD (i).toNat dr0).gLoad)] 27, rowOf enc8 ra1 rc1 5 1 (ls tt1), box b1 [.pointer (some ⟨b1, 0, none⟩), .slice ra1 ((ls tt1).length) rc1] 62] (by kernel_rfl) rfl (by kernel_rfl) (by kernel_rfl) rfl ?_
    intro w16 S24
    refine J.run 9 K17_14 [(8, iv 1), (9, .pointer (some ⟨b5, 0, none⟩)), (22, iv 1), (21, .agg kvD10_5), (7, .pointer (some ⟨b3, 0, none⟩)), (15, iv i), (14, iv (n : Int)), (13, .slice a n c), (4, .pointer (some ⟨b1, 0, none⟩))] w16 (by kernel_rfl) ?_
    have S25 := S24.front 3 rfl
    clear S24
    have S26 : Sep w [box b1 [.pointer (some ⟨b1, 0, none⟩), .slice ra1 ((ls tt1).length) rc1] 62, rowOf enc8 ra1 rc1 5 1 (ls tt1), box b5 kvD10_1 51, box b3 [iv (((l.getD (i).toNat dr0)).gAt), iv (((l.getD (i).toNat dr0)).gPedal), iv (((l.getD (i).toNat dr0)).gBrake), iv (((l.getD (i).toNat dr0)).gGear), iv (((l.getD (i).toNat dr0)).gLoad)] 48, box b2 [iv ((l.getD (i).toNat dr0).gAt), iv ((l.getD (i).toNat dr0).gPedal), iv ((l.getD (i).toNat dr0).gBrake), iv ((l.getD (i).toNat dr0).gGear), iv ((l.getD (i).toNat dr0).gLoad)] 27] w16 := S25.front 4 rfl
    clear S25
    have hz2 : (⟨#[32]⟩ : ByteArray).size ≤ 48 := Nat.le_of_ble_eq_true rfl
    refine J.callF 28 31 #[.pointer (some ⟨b1, 0, none⟩), .string ⟨#[32]⟩] hb31 (by kernel_rfl) (bwrite_any b1 (some ⟨b1, 0, none⟩) ra1 rc1 tt1 (⟨#[32]⟩ : ByteArray) _ _ _ S26 (by first | assumption | exact .inl rfl | exact .inr rfl) (by omega)) ?_
    obtain ⟨tt2, htt2⟩ : ∃ y : ByteArray, y = tt1 ++ (⟨#[32]⟩ : ByteArray) := ⟨_, rfl⟩
    have hstt2 : tt2.size = tt1.size + (⟨#[32]⟩ : ByteArray).size := by rw [htt2]; exact size_app _ _
    rintro _ w17 ⟨rfl, ra2, rc2, S27⟩
    rw [show tt1 ++ (⟨#[32]⟩ : ByteArray) = tt2 from htt2.symm] at S27
    replace S27 : Sep w [box b1 [.pointer (some ⟨b1, 0, none⟩), .slice ra2 ((ls tt2).length) rc2] 62, rowOf enc8 ra2 rc2 5 1 (ls tt2), box b5 kvD10_1 51, box b3 [iv (((l.getD (i).toNat dr0)).gAt), iv (((l.getD (i).toNat dr0)).gPedal), iv (((l.getD (i).toNat dr0)).gBrake), iv (((l.getD (i).toNat dr0)).gGear), iv (((l.getD (i).toNat dr0)).gLoad)] 48, box b2 [iv ((l.getD (i).toNat dr0).gAt), iv ((l.getD (i).toNat dr0).gPedal), iv ((l.getD (i).toNat dr0).gBrake), iv ((l.getD (i).toNat dr0).gGear), iv ((l.getD (i).toNat dr0).gLoad)] 27] w17 := S27
    have S28 := S27.front 1 rfl
    clear S27
    have S29 := S28.front 4 rfl
    clear S28
    have S30 := S29.front 4 rfl
    clear S29
    have S31 : Sep w [box b5 kvD10_1 51, box b3 [iv (((l.getD (i).toNat dr0)).gAt), iv (((l.getD (i).toNat dr0)).gPedal), iv (((l.getD (i).toNat dr0)).gBrake), iv (((l.getD (i).toNat dr0)).gGear), iv (((l.getD (i).toNat dr0)).gLoad)] 48, box b2 [iv ((l.getD (i).toNat dr0).gAt), iv ((l.getD (i).toNat dr0).gPedal), iv ((l.getD (i).toNat dr0).gBrake), iv ((l.getD (i).toNat dr0).gGear), iv ((l.getD (i).toNat dr0).gLoad)] 27, rowOf enc8 ra2 rc2 5 1 (ls tt2), box b1 [.pointer (some ⟨b1, 0, none⟩), .slice ra2 ((ls tt2).length) rc2] 62] w17 := S30.front 4 rfl
    clear S30
    refine J.run 1 K17_15 [(8, iv 1), (9, .pointer (some ⟨b5, 0, none⟩)), (22, iv 1), (21, .agg kvD10_5), (7, .pointer (some ⟨b3, 0, none⟩)), (15, iv i), (14, iv (n : Int)), (13, .slice a n c), (4, .pointer (some ⟨b1, 0, none⟩))] w17 (by kernel_rfl) ?_
    refine J.drawPlan (fun w_ => Sep w [box b5 kvD10_1 51, box b3 [iv (((l.getD (i).toNat dr0)).gAt), iv (((l.getD (i).toNat dr0)).gPedal), iv (((l.getD (i).toNat dr0)).gBrake), iv (((l.getD (i).toNat dr0)).gGear), iv (((l.getD (i).toNat dr0)).gLoad)] 48, box b2 [iv ((l.getD (i).toNat dr0).gAt), iv ((l.getD (i).toNat dr0).gPedal), iv ((l.getD (i).toNat dr0).gBrake), iv ((l.getD (i).toNat dr0).gGear), iv ((l.getD (i).toNat dr0).gLoad)] 27] w_) [(0, true), (1, true), (2, true), (3, true), (4, true), (5, true), (6, false), (7, true), (8, false)] S31 Tryd.mixed (by kernel_rfl) (planOK_of (T := [(0, some 29, 512), (1, some 30, 536870912), (2, some 31, 1073741824), (0, some 32, 256), (8, some 33, 4294967424), (16, some 34, 8589934592), (32, some 35, 17179869184), (68, some 36, 36507222016), (192, some 37, 68719476752)]) (by kernel_rfl) (by kernel_rfl)) ?_
    intro w18 S32
    refine PB.mk ((S32.erase 4).erase 3) ?_
    refine PL.take 0 29 (.pointer (some ⟨b5, 0, none⟩)) (fun _ _ => by kernel_rfl) ?_
    refine PL.takeOK 1 (fun w_ S_ => OK.ldBox S_ 0 30 9 0 (.string ⟨#[112, 101, 100, 97, 108]⟩) (by kernel_rfl) rfl (by kernel_rfl)) rfl ?_
    refine PL.takeOK 2 (fun w_ S_ => OK.cat 31 (⟨#[112, 101, 100, 97, 108]⟩) (⟨#[32]⟩) (⟨#[112, 101, 100, 97, 108, 32]⟩) (by kernel_rfl) (by first | decide | (simp only [lit_size, List.size_toArray, List.length_cons, List.length_nil]; omega)) (by decide +kernel)) rfl ?_
    refine PL.take 3 32 (iv 1) (fun _ _ => by kernel_rfl) ?_
    refine PL.takeOK 4 (fun w_ S_ => OK.indexP 33 48 5 1 b3 0 1 1 (by kernel_rfl) (by kernel_rfl) (by omega) (by omega)) rfl ?_
    refine PL.head (.pointer (some ⟨b3, 1, none⟩)) (by first | rfl | (rw [Nat.zero_add, Nat.mul_one])) ?_
    refine PL.takeOK 5 (fun w_ S_ => OK.ldBox S_ 1 34 3 1 (iv (((l.getD (i).toNat dr0)).gPedal)) (by kernel_rfl) rfl (by kernel_rfl)) rfl ?_
    refine PL.callF 35 32 #[iv (((l.getD (i).toNat dr0)).gPedal)] hb32 (by kernel_rfl) (atext_any (((l.getD (i).toNat dr0)).gPedal) _ (by omega) (tabW_sep hW S32)) ?_
    rintro _ w19 ⟨rfl, T5⟩
    have S33 : Sep w [box b5 kvD10_1 51, box b3 [iv (((l.getD (i).toNat dr0)).gAt), iv (((l.getD (i).toNat dr0)).gPedal), iv (((l.getD (i).toNat dr0)).gBrake), iv (((l.getD (i).toNat dr0)).gGear), iv (((l.getD (i).toNat dr0)).gLoad)] 48, box b2 [iv ((l.getD (i).toNat dr0).gAt), iv ((l.getD (i).toNat dr0).gPedal), iv ((l.getD (i).toNat dr0).gBrake), iv ((l.getD (i).toNat dr0).gGear), iv ((l.getD (i).toNat dr0).gLoad)] 27, rowOf enc8 ra2 rc2 5 1 (ls tt2), box b1 [.pointer (some ⟨b1, 0, none⟩), .slice ra2 ((ls tt2).length) rc2] 62] w19 := S32.trans T5
    clear T5 S32
    have := itoaB_size (n := (((l.getD (i).toNat dr0)).gPedal)) (by omega)
    refine PB.mk ((S33.erase 4).erase 3) ?_
    refine PL.takeOK 7 (fun w_ S_ => OK.cat 36 (⟨#[112, 101, 100, 97, 108, 32]⟩ : ByteArray) (itoaB (((l.getD (i).toNat dr0)).gPedal)) ((⟨#[112, 101, 100, 97, 108, 32]⟩ : ByteArray) ++ (itoaB (((l.getD (i).toNat dr0)).gPedal))) (by kernel_rfl) (by first | decide | (simp only [lit_size, List.size_toArray, List.length_cons, List.length_nil]; omega)) (rfl)) rfl ?_
    have S34 := S33.front 3 rfl
    clear S33
    have S35 : Sep w [box b1 [.pointer (some ⟨b1, 0, none⟩), .slice ra2 ((ls tt2).length) rc2] 62, rowOf enc8 ra2 rc2 5 1 (ls tt2), box b5 kvD10_1 51, box b3 [iv (((l.getD (i).toNat dr0)).gAt), iv (((l.getD (i).toNat dr0)).gPedal), iv (((l.getD (i).toNat dr0)).gBrake), iv (((l.getD (i).toNat dr0)).gGear), iv (((l.getD (i).toNat dr0)).gLoad)] 48, box b2 [iv ((l.getD (i).toNat dr0).gAt), iv ((l.getD (i).toNat dr0).gPedal), iv ((l.getD (i).toNat dr0).gBrake), iv ((l.getD (i).toNat dr0).gGear), iv ((l.getD (i).toNat dr0).gLoad)] 27] w19 := S34.front 4 rfl
    clear S34
    have hz3 : ((⟨#[112, 101, 100, 97, 108, 32]⟩ : ByteArray) ++ (itoaB (((l.getD (i).toNat dr0)).gPedal))).size ≤ 48 := by rw [size_app]; show 6 + _ ≤ 48; clear hga hll; omega
    refine PL.callF 37 31 #[.pointer (some ⟨b1, 0, none⟩), .string ((⟨#[112, 101, 100, 97, 108, 32]⟩ : ByteArray) ++ (itoaB (((l.getD (i).toNat dr0)).gPedal)))] hb31 (by kernel_rfl) (bwrite_any b1 (some ⟨b1, 0, none⟩) ra2 rc2 tt2 ((⟨#[112, 101, 100, 97, 108, 32]⟩ : ByteArray) ++ (itoaB (((l.getD (i).toNat dr0)).gPedal))) _ _ _ S35 (by first | assumption | exact .inl rfl | exact .inr rfl) (by omega)) ?_
    obtain ⟨tt3, htt3⟩ : ∃ y : ByteArray, y = tt2 ++ ((⟨#[112, 101, 100, 97, 108, 32]⟩ : ByteArray) ++ (itoaB (((l.getD (i).toNat dr0)).gPedal))) := ⟨_, rfl⟩
    have hstt3 : tt3.size = tt2.size + ((⟨#[112, 101, 100, 97, 108, 32]⟩ : ByteArray) ++ (itoaB (((l.getD (i).toNat dr0)).gPedal))).size := by rw [htt3]; exact size_app _ _
    rintro _ w20 ⟨rfl, ra3, rc3, S36⟩
    rw [show tt2 ++ ((⟨#[112, 101, 100, 97, 108, 32]⟩ : ByteArray) ++ (itoaB (((l.getD (i).toNat dr0)).gPedal))) = tt3 from htt3.symm] at S36
    replace S36 : Sep w [box b1 [.pointer (some ⟨b1, 0, none⟩), .slice ra3 ((ls tt3).length) rc3] 62, rowOf enc8 ra3 rc3 5 1 (ls tt3), box b5 kvD10_1 51, box b3 [iv (((l.getD (i).toNat dr0)).gAt), iv (((l.getD (i).toNat dr0)).gPedal), iv (((l.getD (i).toNat dr0)).gBrake), iv (((l.getD (i).toNat dr0)).gGear), iv (((l.getD (i).toNat dr0)).gLoad)] 48, box b2 [iv ((l.getD (i).toNat dr0).gAt), iv ((l.getD (i).toNat dr0).gPedal), iv ((l.getD (i).toNat dr0).gBrake), iv ((l.getD (i).toNat dr0).gGear), iv ((l.getD (i).toNat dr0).gLoad)] 27] w20 := S36
    have S37 := S36.front 1 rfl
    clear S36
    have S38 := S37.front 4 rfl
    clear S37
    have S39 := S38.front 4 rfl
    clear S38
    have S40 : Sep w [box b5 kvD10_1 51, box b3 [iv (((l.getD (i).toNat dr0)).gAt), iv (((l.getD (i).toNat dr0)).gPedal), iv (((l.getD (i).toNat dr0)).gBrake), iv (((l.getD (i).toNat dr0)).gGear), iv (((l.getD (i).toNat dr0)).gLoad)] 48, box b2 [iv ((l.getD (i).toNat dr0).gAt), iv ((l.getD (i).toNat dr0).gPedal), iv ((l.getD (i).toNat dr0).gBrake), iv ((l.getD (i).toNat dr0).gGear), iv ((l.getD (i).toNat dr0).gLoad)] 27, rowOf enc8 ra3 rc3 5 1 (ls tt3), box b1 [.pointer (some ⟨b1, 0, none⟩), .slice ra3 ((ls tt3).length) rc3] 62] w20 := S39.front 4 rfl
    clear S39
    refine PB.mk ((S40.erase 4).erase 3) ?_
    refine PL.done ?_
    refine J.run 0 (rRest K17_15) [(22, iv 1), (21, .agg kvD10_5), (7, .pointer (some ⟨b3, 0, none⟩)), (15, iv i), (14, iv (n : Int)), (13, .slice a n c), (4, .pointer (some ⟨b1, 0, none⟩))] w20 (by kernel_rfl) ?_
    refine J.run 6 K17_16 [(22, iv 2), (21, .agg kvD10_5), (7, .pointer (some ⟨b3, 0, none⟩)), (15, iv i), (14, iv (n : Int)), (13, .slice a n c), (4, .pointer (some ⟨b1, 0, none⟩))] w20 (by kernel_rfl) ?_
    have S41 : Sep w [box b3 [iv (((l.getD (i).toNat dr0)).gAt), iv (((l.getD (i).toNat dr0)).gPedal), iv (((l.getD (i).toNat dr0)).gBrake), iv (((l.getD (i).toNat dr0)).gGear), iv (((l.getD (i).toNat dr0)).gLoad)] 48, box b2 [iv ((l.getD (i).toNat dr0).gAt), iv ((l.getD (i).toNat dr0).gPedal), iv ((l.getD (i).toNat dr0).gBrake), iv ((l.getD (i).toNat dr0).gGear), iv ((l.getD (i).toNat dr0).gLoad)] 27, rowOf enc8 ra3 rc3 5 1 (ls tt3), box b1 [.pointer (some ⟨b1, 0, none⟩), .slice ra3 ((ls tt3).length) rc3] 62] w20 := S40.erase 0
    clear S40
    refine J.run 13 K17_17 [(25, .agg #[.string ⟨#[98, 114, 97, 107, 101]⟩, iv 0, iv 1000]), (24, iv 2), (22, iv 2), (21, .agg kvD10_5), (7, .pointer (some ⟨b3, 0, none⟩)), (15, iv i), (14, iv (n : Int)), (13, .slice a n c), (4, .pointer (some ⟨b1, 0, none⟩))] w20 (by kernel_rfl) ?_
    refine J.new S41 9 [.string ByteArray.empty, iv 0, iv 0] 51 (by kernel_rfl) ?_
    intro b6 w21 S42
    refine J.run 1 K17_18 [(8, iv 2), (9, .pointer (some ⟨b6, 0, none⟩)), (25, .agg #[.string ⟨#[98, 114, 97, 107, 101]⟩, iv 0, iv 1000]), (22, iv 2), (21, .agg kvD10_5), (7, .pointer (some ⟨b3, 0, none⟩)), (15, iv i), (14, iv (n : Int)), (13, .slice a n c), (4, .pointer (some ⟨b1, 0, none⟩))] w21 (by kernel_rfl) ?_
    refine J.stBox S42 0 51 0 (.agg #[.string ⟨#[98, 114, 97, 107, 101]⟩, iv 0, iv 1000]) kvD10_3 [box b6 kvD10_3 51, box b3 [iv (((l.getD (i).toNat dr0)).gAt), iv (((l.getD (i).toNat dr0)).gPedal), iv (((l.getD (i).toNat dr0)).gBrake), iv (((l.getD (i).toNat dr0)).gGear), iv (((l.getD (i).toNat dr0)).gLoad)] 48, box b2 [iv ((l.getD (i).toNat dr0).gAt), iv ((l.getD (i).toNat dr0).gPedal), iv ((l.getD (i).toNat dr0).gBrake), iv ((l.getD (i).toNat dr0).gGear), iv ((l.getD (i).toNat dr0).gLoad)] 27, rowOf enc8 ra3 rc3 5 1 (ls tt3), box b1 [.pointer (some ⟨b1, 0, none⟩), .slice ra3 ((ls tt3).length) rc3] 62] (by kernel_rfl) rfl (by kernel_rfl) (by kernel_rfl) rfl ?_
    intro w22 S43
    refine J.run 9 K17_19 [(8, iv 2), (9, .pointer (some ⟨b6, 0, none⟩)), (22, iv 2), (21, .agg kvD10_5), (7, .pointer (some ⟨b3, 0, none⟩)), (15, iv i), (14, iv (n : Int)), (13, .slice a n c), (4, .pointer (some ⟨b1, 0, none⟩))] w22 (by kernel_rfl) ?_
    have S44 := S43.front 3 rfl
    clear S43
    have S45 : Sep w [box b1 [.pointer (some ⟨b1, 0, none⟩), .slice ra3 ((ls tt3).length) rc3] 62, rowOf enc8 ra3 rc3 5 1 (ls tt3), box b6 kvD10_3 51, box b3 [iv (((l.getD (i).toNat dr0)).gAt), iv (((l.getD (i).toNat dr0)).gPedal), iv (((l.getD (i).toNat dr0)).gBrake), iv (((l.getD (i).toNat dr0)).gGear), iv (((l.getD (i).toNat dr0)).gLoad)] 48, box b2 [iv ((l.getD (i).toNat dr0).gAt), iv ((l.getD (i).toNat dr0).gPedal), iv ((l.getD (i).toNat dr0).gBrake), iv ((l.getD (i).toNat dr0).gGear), iv ((l.getD (i).toNat dr0).gLoad)] 27] w22 := S44.front 4 rfl
    clear S44
    have hz4 : (⟨#[32]⟩ : ByteArray).size ≤ 48 := Nat.le_of_ble_eq_true rfl
    refine J.callF 28 31 #[.pointer (some ⟨b1, 0, none⟩), .string ⟨#[32]⟩] hb31 (by kernel_rfl) (bwrite_any b1 (some ⟨b1, 0, none⟩) ra3 rc3 tt3 (⟨#[32]⟩ : ByteArray) _ _ _ S45 (by first | assumption | exact .inl rfl | exact .inr rfl) (by omega)) ?_
    obtain ⟨tt4, htt4⟩ : ∃ y : ByteArray, y = tt3 ++ (⟨#[32]⟩ : ByteArray) := ⟨_, rfl⟩
    have hstt4 : tt4.size = tt3.size + (⟨#[32]⟩ : ByteArray).size := by rw [htt4]; exact size_app _ _
    rintro _ w23 ⟨rfl, ra4, rc4, S46⟩
    rw [show tt3 ++ (⟨#[32]⟩ : ByteArray) = tt4 from htt4.symm] at S46
    replace S46 : Sep w [box b1 [.pointer (some ⟨b1, 0, none⟩), .slice ra4 ((ls tt4).length) rc4] 62, rowOf enc8 ra4 rc4 5 1 (ls tt4), box b6 kvD10_3 51, box b3 [iv (((l.getD (i).toNat dr0)).gAt), iv (((l.getD (i).toNat dr0)).gPedal), iv (((l.getD (i).toNat dr0)).gBrake), iv (((l.getD (i).toNat dr0)).gGear), iv (((l.getD (i).toNat dr0)).gLoad)] 48, box b2 [iv ((l.getD (i).toNat dr0).gAt), iv ((l.getD (i).toNat dr0).gPedal), iv ((l.getD (i).toNat dr0).gBrake), iv ((l.getD (i).toNat dr0).gGear), iv ((l.getD (i).toNat dr0).gLoad)] 27] w23 := S46
    have S47 := S46.front 1 rfl
    clear S46
    have S48 := S47.front 4 rfl
    clear S47
    have S49 := S48.front 4 rfl
    clear S48
    have S50 : Sep w [box b6 kvD10_3 51, box b3 [iv (((l.getD (i).toNat dr0)).gAt), iv (((l.getD (i).toNat dr0)).gPedal), iv (((l.getD (i).toNat dr0)).gBrake), iv (((l.getD (i).toNat dr0)).gGear), iv (((l.getD (i).toNat dr0)).gLoad)] 48, box b2 [iv ((l.getD (i).toNat dr0).gAt), iv ((l.getD (i).toNat dr0).gPedal), iv ((l.getD (i).toNat dr0).gBrake), iv ((l.getD (i).toNat dr0).gGear), iv ((l.getD (i).toNat dr0).gLoad)] 27, rowOf enc8 ra4 rc4 5 1 (ls tt4), box b1 [.pointer (some ⟨b1, 0, none⟩), .slice ra4 ((ls tt4).length) rc4] 62] w23 := S49.front 4 rfl
    clear S49
    refine J.run 1 K17_20 [(8, iv 2), (9, .pointer (some ⟨b6, 0, none⟩)), (22, iv 2), (21, .agg kvD10_5), (7, .pointer (some ⟨b3, 0, none⟩)), (15, iv i), (14, iv (n : Int)), (13, .slice a n c), (4, .pointer (some ⟨b1, 0, none⟩))] w23 (by kernel_rfl) ?_
    refine J.drawPlan (fun w_ => Sep w [box b6 kvD10_3 51, box b3 [iv (((l.getD (i).toNat dr0)).gAt), iv (((l.getD (i).toNat dr0)).gPedal), iv (((l.getD (i).toNat dr0)).gBrake), iv (((l.getD (i).toNat dr0)).gGear), iv (((l.getD (i).toNat dr0)).gLoad)] 48, box b2 [iv ((l.getD (i).toNat dr0).gAt), iv ((l.getD (i).toNat dr0).gPedal), iv ((l.getD (i).toNat dr0).gBrake), iv ((l.getD (i).toNat dr0).gGear), iv ((l.getD (i).toNat dr0).gLoad)] 27] w_) [(0, true), (1, true), (2, true), (3, true), (4, true), (5, true), (6, false), (7, true), (8, false)] S50 Tryd.mixed (by kernel_rfl) (planOK_of (T := [(0, some 29, 512), (1, some 30, 536870912), (2, some 31, 1073741824), (0, some 32, 256), (8, some 33, 4294967424), (16, some 34, 8589934592), (32, some 35, 17179869184), (68, some 36, 36507222016), (192, some 37, 68719476752)]) (by kernel_rfl) (by kernel_rfl)) ?_
    intro w24 S51
    refine PB.mk ((S51.erase 4).erase 3) ?_
    refine PL.take 0 29 (.pointer (some ⟨b6, 0, none⟩)) (fun _ _ => by kernel_rfl) ?_
    refine PL.takeOK 1 (fun w_ S_ => OK.ldBox S_ 0 30 9 0 (.string ⟨#[98, 114, 97, 107, 101]⟩) (by kernel_rfl) rfl (by kernel_rfl)) rfl ?_
    refine PL.takeOK 2 (fun w_ S_ => OK.cat 31 (⟨#[98, 114, 97, 107, 101]⟩) (⟨#[32]⟩) (⟨#[98, 114, 97, 107, 101, 32]⟩) (by kernel_rfl) (by first | decide | (simp only [lit_size, List.size_toArray, List.length_cons, List.length_nil]; omega)) (by decide +kernel)) rfl ?_
    refine PL.take 3 32 (iv 2) (fun _ _ => by kernel_rfl) ?_
    refine PL.takeOK 4 (fun w_ S_ => OK.indexP 33 48 5 1 b3 0 2 2 (by kernel_rfl) (by kernel_rfl) (by omega) (by omega)) rfl ?_
    refine PL.head (.pointer (some ⟨b3, 2, none⟩)) (by first | rfl | (rw [Nat.zero_add, Nat.mul_one])) ?_
    refine PL.takeOK 5 (fun w_ S_ => OK.ldBox S_ 1 34 3 2 (iv (((l.getD (i).toNat dr0)).gBrake)) (by kernel_rfl) rfl (by kernel_rfl)) rfl ?_
    refine PL.callF 35 32 #[iv (((l.getD (i).toNat dr0)).gBrake)] hb32 (by kernel_rfl) (atext_any (((l.getD (i).toNat dr0)).gBrake) _ (by omega) (tabW_sep hW S51)) ?_
    rintro _ w25 ⟨rfl, T6⟩
    have S52 : Sep w [box b6 kvD10_3 51, box b3 [iv (((l.getD (i).toNat dr0)).gAt), iv (((l.getD (i).toNat dr0)).gPedal), iv (((l.getD (i).toNat dr0)).gBrake), iv (((l.getD (i).toNat dr0)).gGear), iv (((l.getD (i).toNat dr0)).gLoad)] 48, box b2 [iv ((l.getD (i).toNat dr0).gAt), iv ((l.getD (i).toNat dr0).gPedal), iv ((l.getD (i).toNat dr0).gBrake), iv ((l.getD (i).toNat dr0).gGear), iv ((l.getD (i).toNat dr0).gLoad)] 27, rowOf enc8 ra4 rc4 5 1 (ls tt4), box b1 [.pointer (some ⟨b1, 0, none⟩), .slice ra4 ((ls tt4).length) rc4] 62] w25 := S51.trans T6
    clear T6 S51
    have := itoaB_size (n := (((l.getD (i).toNat dr0)).gBrake)) (by omega)
    refine PB.mk ((S52.erase 4).erase 3) ?_
    refine PL.takeOK 7 (fun w_ S_ => OK.cat 36 (⟨#[98, 114, 97, 107, 101, 32]⟩ : ByteArray) (itoaB (((l.getD (i).toNat dr0)).gBrake)) ((⟨#[98, 114, 97, 107, 101, 32]⟩ : ByteArray) ++ (itoaB (((l.getD (i).toNat dr0)).gBrake))) (by kernel_rfl) (by first | decide | (simp only [lit_size, List.size_toArray, List.length_cons, List.length_nil]; omega)) (rfl)) rfl ?_
    have S53 := S52.front 3 rfl
    clear S52
    have S54 : Sep w [box b1 [.pointer (some ⟨b1, 0, none⟩), .slice ra4 ((ls tt4).length) rc4] 62, rowOf enc8 ra4 rc4 5 1 (ls tt4), box b6 kvD10_3 51, box b3 [iv (((l.getD (i).toNat dr0)).gAt), iv (((l.getD (i).toNat dr0)).gPedal), iv (((l.getD (i).toNat dr0)).gBrake), iv (((l.getD (i).toNat dr0)).gGear), iv (((l.getD (i).toNat dr0)).gLoad)] 48, box b2 [iv ((l.getD (i).toNat dr0).gAt), iv ((l.getD (i).toNat dr0).gPedal), iv ((l.getD (i).toNat dr0).gBrake), iv ((l.getD (i).toNat dr0).gGear), iv ((l.getD (i).toNat dr0).gLoad)] 27] w25 := S53.front 4 rfl
    clear S53
    have hz5 : ((⟨#[98, 114, 97, 107, 101, 32]⟩ : ByteArray) ++ (itoaB (((l.getD (i).toNat dr0)).gBrake))).size ≤ 48 := by rw [size_app]; show 6 + _ ≤ 48; clear hga hll; omega
    refine PL.callF 37 31 #[.pointer (some ⟨b1, 0, none⟩), .string ((⟨#[98, 114, 97, 107, 101, 32]⟩ : ByteArray) ++ (itoaB (((l.getD (i).toNat dr0)).gBrake)))] hb31 (by kernel_rfl) (bwrite_any b1 (some ⟨b1, 0, none⟩) ra4 rc4 tt4 ((⟨#[98, 114, 97, 107, 101, 32]⟩ : ByteArray) ++ (itoaB (((l.getD (i).toNat dr0)).gBrake))) _ _ _ S54 (by first | assumption | exact .inl rfl | exact .inr rfl) (by omega)) ?_
    obtain ⟨tt5, htt5⟩ : ∃ y : ByteArray, y = tt4 ++ ((⟨#[98, 114, 97, 107, 101, 32]⟩ : ByteArray) ++ (itoaB (((l.getD (i).toNat dr0)).gBrake))) := ⟨_, rfl⟩
    have hstt5 : tt5.size = tt4.size + ((⟨#[98, 114, 97, 107, 101, 32]⟩ : ByteArray) ++ (itoaB (((l.getD (i).toNat dr0)).gBrake))).size := by rw [htt5]; exact size_app _ _
    rintro _ w26 ⟨rfl, ra5, rc5, S55⟩
    rw [show tt4 ++ ((⟨#[98, 114, 97, 107, 101, 32]⟩ : ByteArray) ++ (itoaB (((l.getD (i).toNat dr0)).gBrake))) = tt5 from htt5.symm] at S55
    replace S55 : Sep w [box b1 [.pointer (some ⟨b1, 0, none⟩), .slice ra5 ((ls tt5).length) rc5] 62, rowOf enc8 ra5 rc5 5 1 (ls tt5), box b6 kvD10_3 51, box b3 [iv (((l.getD (i).toNat dr0)).gAt), iv (((l.getD (i).toNat dr0)).gPedal), iv (((l.getD (i).toNat dr0)).gBrake), iv (((l.getD (i).toNat dr0)).gGear), iv (((l.getD (i).toNat dr0)).gLoad)] 48, box b2 [iv ((l.getD (i).toNat dr0).gAt), iv ((l.getD (i).toNat dr0).gPedal), iv ((l.getD (i).toNat dr0).gBrake), iv ((l.getD (i).toNat dr0).gGear), iv ((l.getD (i).toNat dr0).gLoad)] 27] w26 := S55
    have S56 := S55.front 1 rfl
    clear S55
    have S57 := S56.front 4 rfl
    clear S56
    have S58 := S57.front 4 rfl
    clear S57
    have S59 : Sep w [box b6 kvD10_3 51, box b3 [iv (((l.getD (i).toNat dr0)).gAt), iv (((l.getD (i).toNat dr0)).gPedal), iv (((l.getD (i).toNat dr0)).gBrake), iv (((l.getD (i).toNat dr0)).gGear), iv (((l.getD (i).toNat dr0)).gLoad)] 48, box b2 [iv ((l.getD (i).toNat dr0).gAt), iv ((l.getD (i).toNat dr0).gPedal), iv ((l.getD (i).toNat dr0).gBrake), iv ((l.getD (i).toNat dr0).gGear), iv ((l.getD (i).toNat dr0).gLoad)] 27, rowOf enc8 ra5 rc5 5 1 (ls tt5), box b1 [.pointer (some ⟨b1, 0, none⟩), .slice ra5 ((ls tt5).length) rc5] 62] w26 := S58.front 4 rfl
    clear S58
    refine PB.mk ((S59.erase 4).erase 3) ?_
    refine PL.done ?_
    refine J.run 0 (rRest K17_20) [(22, iv 2), (21, .agg kvD10_5), (7, .pointer (some ⟨b3, 0, none⟩)), (15, iv i), (14, iv (n : Int)), (13, .slice a n c), (4, .pointer (some ⟨b1, 0, none⟩))] w26 (by kernel_rfl) ?_
    refine J.run 6 K17_21 [(22, iv 3), (21, .agg kvD10_5), (7, .pointer (some ⟨b3, 0, none⟩)), (15, iv i), (14, iv (n : Int)), (13, .slice a n c), (4, .pointer (some ⟨b1, 0, none⟩))] w26 (by kernel_rfl) ?_
    have S60 : Sep w [box b3 [iv (((l.getD (i).toNat dr0)).gAt), iv (((l.getD (i).toNat dr0)).gPedal), iv (((l.getD (i).toNat dr0)).gBrake), iv (((l.getD (i).toNat dr0)).gGear), iv (((l.getD (i).toNat dr0)).gLoad)] 48, box b2 [iv ((l.getD (i).toNat dr0).gAt), iv ((l.getD (i).toNat dr0).gPedal), iv ((l.getD (i).toNat dr0).gBrake), iv ((l.getD (i).toNat dr0).gGear), iv ((l.getD (i).toNat dr0).gLoad)] 27, rowOf enc8 ra5 rc5 5 1 (ls tt5), box b1 [.pointer (some ⟨b1, 0, none⟩), .slice ra5 ((ls tt5).length) rc5] 62] w26 := S59.erase 0
    clear S59
    refine J.run 13 K17_22 [(25, .agg #[.string ⟨#[103, 101, 97, 114]⟩, iv 0, iv 6]), (24, iv 3), (22, iv 3), (21, .agg kvD10_5), (7, .pointer (some ⟨b3, 0, none⟩)), (15, iv i), (14, iv (n : Int)), (13, .slice a n c), (4, .pointer (some ⟨b1, 0, none⟩))] w26 (by kernel_rfl) ?_
    refine J.new S60 9 [.string ByteArray.empty, iv 0, iv 0] 51 (by kernel_rfl) ?_
    intro b7 w27 S61
    refine J.run 1 K17_23 [(8, iv 3), (9, .pointer (some ⟨b7, 0, none⟩)), (25, .agg #[.string ⟨#[103, 101, 97, 114]⟩, iv 0, iv 6]), (22, iv 3), (21, .agg kvD10_5), (7, .pointer (some ⟨b3, 0, none⟩)), (15, iv i), (14, iv (n : Int)), (13, .slice a n c), (4, .pointer (some ⟨b1, 0, none⟩))] w27 (by kernel_rfl) ?_
    refine J.stBox S61 0 51 0 (.agg #[.string ⟨#[103, 101, 97, 114]⟩, iv 0, iv 6]) kvD10_4 [box b7 kvD10_4 51, box b3 [iv (((l.getD (i).toNat dr0)).gAt), iv (((l.getD (i).toNat dr0)).gPedal), iv (((l.getD (i).toNat dr0)).gBrake), iv (((l.getD (i).toNat dr0)).gGear), iv (((l.getD (i).toNat dr0)).gLoad)] 48, box b2 [iv ((l.getD (i).toNat dr0).gAt), iv ((l.getD (i).toNat dr0).gPedal), iv ((l.getD (i).toNat dr0).gBrake), iv ((l.getD (i).toNat dr0).gGear), iv ((l.getD (i).toNat dr0).gLoad)] 27, rowOf enc8 ra5 rc5 5 1 (ls tt5), box b1 [.pointer (some ⟨b1, 0, none⟩), .slice ra5 ((ls tt5).length) rc5] 62] (by kernel_rfl) rfl (by kernel_rfl) (by kernel_rfl) rfl ?_
    intro w28 S62
    refine J.run 9 K17_24 [(8, iv 3), (9, .pointer (some ⟨b7, 0, none⟩)), (22, iv 3), (21, .agg kvD10_5), (7, .pointer (some ⟨b3, 0, none⟩)), (15, iv i), (14, iv (n : Int)), (13, .slice a n c), (4, .pointer (some ⟨b1, 0, none⟩))] w28 (by kernel_rfl) ?_
    have S63 := S62.front 3 rfl
    clear S62
    have S64 : Sep w [box b1 [.pointer (some ⟨b1, 0, none⟩), .slice ra5 ((ls tt5).length) rc5] 62, rowOf enc8 ra5 rc5 5 1 (ls tt5), box b7 kvD10_4 51, box b3 [iv (((l.getD (i).toNat dr0)).gAt), iv (((l.getD (i).toNat dr0)).gPedal), iv (((l.getD (i).toNat dr0)).gBrake), iv (((l.getD (i).toNat dr0)).gGear), iv (((l.getD (i).toNat dr0)).gLoad)] 48, box b2 [iv ((l.getD (i).toNat dr0).gAt), iv ((l.getD (i).toNat dr0).gPedal), iv ((l.getD (i).toNat dr0).gBrake), iv ((l.getD (i).toNat dr0).gGear), iv ((l.getD (i).toNat dr0).gLoad)] 27] w28 := S63.front 4 rfl
    clear S63
    have hz6 : (⟨#[32]⟩ : ByteArray).size ≤ 48 := Nat.le_of_ble_eq_true rfl
    refine J.callF 28 31 #[.pointer (some ⟨b1, 0, none⟩), .string ⟨#[32]⟩] hb31 (by kernel_rfl) (bwrite_any b1 (some ⟨b1, 0, none⟩) ra5 rc5 tt5 (⟨#[32]⟩ : ByteArray) _ _ _ S64 (by first | assumption | exact .inl rfl | exact .inr rfl) (by omega)) ?_
    obtain ⟨tt6, htt6⟩ : ∃ y : ByteArray, y = tt5 ++ (⟨#[32]⟩ : ByteArray) := ⟨_, rfl⟩
    have hstt6 : tt6.size = tt5.size + (⟨#[32]⟩ : ByteArray).size := by rw [htt6]; exact size_app _ _
    rintro _ w29 ⟨rfl, ra6, rc6, S65⟩
    rw [show tt5 ++ (⟨#[32]⟩ : ByteArray) = tt6 from htt6.symm] at S65
    replace S65 : Sep w [box b1 [.pointer (some ⟨b1, 0, none⟩), .slice ra6 ((ls tt6).length) rc6] 62, rowOf enc8 ra6 rc6 5 1 (ls tt6), box b7 kvD10_4 51, box b3 [iv (((l.getD (i).toNat dr0)).gAt), iv (((l.getD (i).toNat dr0)).gPedal), iv (((l.getD (i).toNat dr0)).gBrake), iv (((l.getD (i).toNat dr0)).gGear), iv (((l.getD (i).toNat dr0)).gLoad)] 48, box b2 [iv ((l.getD (i).toNat dr0).gAt), iv ((l.getD (i).toNat dr0).gPedal), iv ((l.getD (i).toNat dr0).gBrake), iv ((l.getD (i).toNat dr0).gGear), iv ((l.getD (i).toNat dr0).gLoad)] 27] w29 := S65
    have S66 := S65.front 1 rfl
    clear S65
    have S67 := S66.front 4 rfl
    clear S66
    have S68 := S67.front 4 rfl
    clear S67
    have S69 : Sep w [box b7 kvD10_4 51, box b3 [iv (((l.getD (i).toNat dr0)).gAt), iv (((l.getD (i).toNat dr0)).gPedal), iv (((l.getD (i).toNat dr0)).gBrake), iv (((l.getD (i).toNat dr0)).gGear), iv (((l.getD (i).toNat dr0)).gLoad)] 48, box b2 [iv ((l.getD (i).toNat dr0).gAt), iv ((l.getD (i).toNat dr0).gPedal), iv ((l.getD (i).toNat dr0).gBrake), iv ((l.getD (i).toNat dr0).gGear), iv ((l.getD (i).toNat dr0).gLoad)] 27, rowOf enc8 ra6 rc6 5 1 (ls tt6), box b1 [.pointer (some ⟨b1, 0, none⟩), .slice ra6 ((ls tt6).length) rc6] 62] w29 := S68.front 4 rfl
    clear S68
    refine J.run 1 K17_25 [(8, iv 3), (9, .pointer (some ⟨b7, 0, none⟩)), (22, iv 3), (21, .agg kvD10_5), (7, .pointer (some ⟨b3, 0, none⟩)), (15, iv i), (14, iv (n : Int)), (13, .slice a n c), (4, .pointer (some ⟨b1, 0, none⟩))] w29 (by kernel_rfl) ?_
    refine J.drawPlan (fun w_ => Sep w [box b7 kvD10_4 51, box b3 [iv (((l.getD (i).toNat dr0)).gAt), iv (((l.getD (i).toNat dr0)).gPedal), iv (((l.getD (i).toNat dr0)).gBrake), iv (((l.getD (i).toNat dr0)).gGear), iv (((l.getD (i).toNat dr0)).gLoad)] 48, box b2 [iv ((l.getD (i).toNat dr0).gAt), iv ((l.getD (i).toNat dr0).gPedal), iv ((l.getD (i).toNat dr0).gBrake), iv ((l.getD (i).toNat dr0).gGear), iv ((l.getD (i).toNat dr0).gLoad)] 27] w_) [(0, true), (1, true), (2, true), (3, true), (4, true), (5, true), (6, false), (7, true), (8, false)] S69 Tryd.mixed (by kernel_rfl) (planOK_of (T := [(0, some 29, 512), (1, some 30, 536870912), (2, some 31, 1073741824), (0, some 32, 256), (8, some 33, 4294967424), (16, some 34, 8589934592), (32, some 35, 17179869184), (68, some 36, 36507222016), (192, some 37, 68719476752)]) (by kernel_rfl) (by kernel_rfl)) ?_
    intro w30 S70
    refine PB.mk ((S70.erase 4).erase 3) ?_
    refine PL.take 0 29 (.pointer (some ⟨b7, 0, none⟩)) (fun _ _ => by kernel_rfl) ?_
    refine PL.takeOK 1 (fun w_ S_ => OK.ldBox S_ 0 30 9 0 (.string ⟨#[103, 101, 97, 114]⟩) (by kernel_rfl) rfl (by kernel_rfl)) rfl ?_
    refine PL.takeOK 2 (fun w_ S_ => OK.cat 31 (⟨#[103, 101, 97, 114]⟩) (⟨#[32]⟩) (⟨#[103, 101, 97, 114, 32]⟩) (by kernel_rfl) (by first | decide | (simp only [lit_size, List.size_toArray, List.length_cons, List.length_nil]; omega)) (by decide +kernel)) rfl ?_
    refine PL.take 3 32 (iv 3) (fun _ _ => by kernel_rfl) ?_
    refine PL.takeOK 4 (fun w_ S_ => OK.indexP 33 48 5 1 b3 0 3 3 (by kernel_rfl) (by kernel_rfl) (by omega) (by omega)) rfl ?_
    refine PL.head (.pointer (some ⟨b3, 3, none⟩)) (by first | rfl | (rw [Nat.zero_add, Nat.mul_one])) ?_
    refine PL.takeOK 5 (fun w_ S_ => OK.ldBox S_ 1 34 3 3 (iv (((l.getD (i).toNat dr0)).gGear)) (by kernel_rfl) rfl (by kernel_rfl)) rfl ?_
    refine PL.callF 35 32 #[iv (((l.getD (i).toNat dr0)).gGear)] hb32 (by kernel_rfl) (atext_any (((l.getD (i).toNat dr0)).gGear) _ (by omega) (tabW_sep hW S70)) ?_
    rintro _ w31 ⟨rfl, T7⟩
    have S71 : Sep w [box b7 kvD10_4 51, box b3 [iv (((l.getD (i).toNat dr0)).gAt), iv (((l.getD (i).toNat dr0)).gPedal), iv (((l.getD (i).toNat dr0)).gBrake), iv (((l.getD (i).toNat dr0)).gGear), iv (((l.getD (i).toNat dr0)).gLoad)] 48, box b2 [iv ((l.getD (i).toNat dr0).gAt), iv ((l.getD (i).toNat dr0).gPedal), iv ((l.getD (i).toNat dr0).gBrake), iv ((l.getD (i).toNat dr0).gGear), iv ((l.getD (i).toNat dr0).gLoad)] 27, rowOf enc8 ra6 rc6 5 1 (ls tt6), box b1 [.pointer (some ⟨b1, 0, none⟩), .slice ra6 ((ls tt6).length) rc6] 62] w31 := S70.trans T7
    clear T7 S70
    have := itoaB_size (n := (((l.getD (i).toNat dr0)).gGear)) (by omega)
    refine PB.mk ((S71.erase 4).erase 3) ?_
    refine PL.takeOK 7 (fun w_ S_ => OK.cat 36 (⟨#[103, 101, 97, 114, 32]⟩ : ByteArray) (itoaB (((l.getD (i).toNat dr0)).gGear)) ((⟨#[103, 101, 97, 114, 32]⟩ : ByteArray) ++ (itoaB (((l.getD (i).toNat dr0)).gGear))) (by kernel_rfl) (by first | decide | (simp only [lit_size, List.size_toArray, List.length_cons, List.length_nil]; omega)) (rfl)) rfl ?_
    have S72 := S71.front 3 rfl
    clear S71
    have S73 : Sep w [box b1 [.pointer (some ⟨b1, 0, none⟩), .slice ra6 ((ls tt6).length) rc6] 62, rowOf enc8 ra6 rc6 5 1 (ls tt6), box b7 kvD10_4 51, box b3 [iv (((l.getD (i).toNat dr0)).gAt), iv (((l.getD (i).toNat dr0)).gPedal), iv (((l.getD (i).toNat dr0)).gBrake), iv (((l.getD (i).toNat dr0)).gGear), iv (((l.getD (i).toNat dr0)).gLoad)] 48, box b2 [iv ((l.getD (i).toNat dr0).gAt), iv ((l.getD (i).toNat dr0).gPedal), iv ((l.getD (i).toNat dr0).gBrake), iv ((l.getD (i).toNat dr0).gGear), iv ((l.getD (i).toNat dr0).gLoad)] 27] w31 := S72.front 4 rfl
    clear S72
    have hz7 : ((⟨#[103, 101, 97, 114, 32]⟩ : ByteArray) ++ (itoaB (((l.getD (i).toNat dr0)).gGear))).size ≤ 48 := by rw [size_app]; show 5 + _ ≤ 48; clear hga hll; omega
    refine PL.callF 37 31 #[.pointer (some ⟨b1, 0, none⟩), .string ((⟨#[103, 101, 97, 114, 32]⟩ : ByteArray) ++ (itoaB (((l.getD (i).toNat dr0)).gGear)))] hb31 (by kernel_rfl) (bwrite_any b1 (some ⟨b1, 0, none⟩) ra6 rc6 tt6 ((⟨#[103, 101, 97, 114, 32]⟩ : ByteArray) ++ (itoaB (((l.getD (i).toNat dr0)).gGear))) _ _ _ S73 (by first | assumption | exact .inl rfl | exact .inr rfl) (by omega)) ?_
    obtain ⟨tt7, htt7⟩ : ∃ y : ByteArray, y = tt6 ++ ((⟨#[103, 101, 97, 114, 32]⟩ : ByteArray) ++ (itoaB (((l.getD (i).toNat dr0)).gGear))) := ⟨_, rfl⟩
    have hstt7 : tt7.size = tt6.size + ((⟨#[103, 101, 97, 114, 32]⟩ : ByteArray) ++ (itoaB (((l.getD (i).toNat dr0)).gGear))).size := by rw [htt7]; exact size_app _ _
    rintro _ w32 ⟨rfl, ra7, rc7, S74⟩
    rw [show tt6 ++ ((⟨#[103, 101, 97, 114, 32]⟩ : ByteArray) ++ (itoaB (((l.getD (i).toNat dr0)).gGear))) = tt7 from htt7.symm] at S74
    replace S74 : Sep w [box b1 [.pointer (some ⟨b1, 0, none⟩), .slice ra7 ((ls tt7).length) rc7] 62, rowOf enc8 ra7 rc7 5 1 (ls tt7), box b7 kvD10_4 51, box b3 [iv (((l.getD (i).toNat dr0)).gAt), iv (((l.getD (i).toNat dr0)).gPedal), iv (((l.getD (i).toNat dr0)).gBrake), iv (((l.getD (i).toNat dr0)).gGear), iv (((l.getD (i).toNat dr0)).gLoad)] 48, box b2 [iv ((l.getD (i).toNat dr0).gAt), iv ((l.getD (i).toNat dr0).gPedal), iv ((l.getD (i).toNat dr0).gBrake), iv ((l.getD (i).toNat dr0).gGear), iv ((l.getD (i).toNat dr0).gLoad)] 27] w32 := S74
    have S75 := S74.front 1 rfl
    clear S74
    have S76 := S75.front 4 rfl
    clear S75
    have S77 := S76.front 4 rfl
    clear S76
    have S78 : Sep w [box b7 kvD10_4 51, box b3 [iv (((l.getD (i).toNat dr0)).gAt), iv (((l.getD (i).toNat dr0)).gPedal), iv (((l.getD (i).toNat dr0)).gBrake), iv (((l.getD (i).toNat dr0)).gGear), iv (((l.getD (i).toNat dr0)).gLoad)] 48, box b2 [iv ((l.getD (i).toNat dr0).gAt), iv ((l.getD (i).toNat dr0).gPedal), iv ((l.getD (i).toNat dr0).gBrake), iv ((l.getD (i).toNat dr0).gGear), iv ((l.getD (i).toNat dr0).gLoad)] 27, rowOf enc8 ra7 rc7 5 1 (ls tt7), box b1 [.pointer (some ⟨b1, 0, none⟩), .slice ra7 ((ls tt7).length) rc7] 62] w32 := S77.front 4 rfl
    clear S77
    refine PB.mk ((S78.erase 4).erase 3) ?_
    refine PL.done ?_
    refine J.run 0 (rRest K17_25) [(22, iv 3), (21, .agg kvD10_5), (7, .pointer (some ⟨b3, 0, none⟩)), (15, iv i), (14, iv (n : Int)), (13, .slice a n c), (4, .pointer (some ⟨b1, 0, none⟩))] w32 (by kernel_rfl) ?_
    refine J.run 6 K17_26 [(22, iv 4), (21, .agg kvD10_5), (7, .pointer (some ⟨b3, 0, none⟩)), (15, iv i), (14, iv (n : Int)), (13, .slice a n c), (4, .pointer (some ⟨b1, 0, none⟩))] w32 (by kernel_rfl) ?_
    have S79 : Sep w [box b3 [iv (((l.getD (i).toNat dr0)).gAt), iv (((l.getD (i).toNat dr0)).gPedal), iv (((l.getD (i).toNat dr0)).gBrake), iv (((l.getD (i).toNat dr0)).gGear), iv (((l.getD (i).toNat dr0)).gLoad)] 48, box b2 [iv ((l.getD (i).toNat dr0).gAt), iv ((l.getD (i).toNat dr0).gPedal), iv ((l.getD (i).toNat dr0).gBrake), iv ((l.getD (i).toNat dr0).gGear), iv ((l.getD (i).toNat dr0).gLoad)] 27, rowOf enc8 ra7 rc7 5 1 (ls tt7), box b1 [.pointer (some ⟨b1, 0, none⟩), .slice ra7 ((ls tt7).length) rc7] 62] w32 := S78.erase 0
    clear S78
    refine J.run 13 K17_27 [(25, .agg #[.string ⟨#[108, 111, 97, 100]⟩, iv (-500), iv 2000]), (24, iv 4), (22, iv 4), (21, .agg kvD10_5), (7, .pointer (some ⟨b3, 0, none⟩)), (15, iv i), (14, iv (n : Int)), (13, .slice a n c), (4, .pointer (some ⟨b1, 0, none⟩))] w32 (by kernel_rfl) ?_
    refine J.new S79 9 [.string ByteArray.empty, iv 0, iv 0] 51 (by kernel_rfl) ?_
    intro b8 w33 S80
    refine J.run 1 K17_28 [(8, iv 4), (9, .pointer (some ⟨b8, 0, none⟩)), (25, .agg #[.string ⟨#[108, 111, 97, 100]⟩, iv (-500), iv 2000]), (22, iv 4), (21, .agg kvD10_5), (7, .pointer (some ⟨b3, 0, none⟩)), (15, iv i), (14, iv (n : Int)), (13, .slice a n c), (4, .pointer (some ⟨b1, 0, none⟩))] w33 (by kernel_rfl) ?_
    refine J.stBox S80 0 51 0 (.agg #[.string ⟨#[108, 111, 97, 100]⟩, iv (-500), iv 2000]) kvD10_2 [box b8 kvD10_2 51, box b3 [iv (((l.getD (i).toNat dr0)).gAt), iv (((l.getD (i).toNat dr0)).gPedal), iv (((l.getD (i).toNat dr0)).gBrake), iv (((l.getD (i).toNat dr0)).gGear), iv (((l.getD (i).toNat dr0)).gLoad)] 48, box b2 [iv ((l.getD (i).toNat dr0).gAt), iv ((l.getD (i).toNat dr0).gPedal), iv ((l.getD (i).toNat dr0).gBrake), iv ((l.getD (i).toNat dr0).gGear), iv ((l.getD (i).toNat dr0).gLoad)] 27, rowOf enc8 ra7 rc7 5 1 (ls tt7), box b1 [.pointer (some ⟨b1, 0, none⟩), .slice ra7 ((ls tt7).length) rc7] 62] (by kernel_rfl) rfl (by kernel_rfl) (by kernel_rfl) rfl ?_
    intro w34 S81
    refine J.run 9 K17_29 [(8, iv 4), (9, .pointer (some ⟨b8, 0, none⟩)), (22, iv 4), (21, .agg kvD10_5), (7, .pointer (some ⟨b3, 0, none⟩)), (15, iv i), (14, iv (n : Int)), (13, .slice a n c), (4, .pointer (some ⟨b1, 0, none⟩))] w34 (by kernel_rfl) ?_
    have S82 := S81.front 3 rfl
    clear S81
    have S83 : Sep w [box b1 [.pointer (some ⟨b1, 0, none⟩), .slice ra7 ((ls tt7).length) rc7] 62, rowOf enc8 ra7 rc7 5 1 (ls tt7), box b8 kvD10_2 51, box b3 [iv (((l.getD (i).toNat dr0)).gAt), iv (((l.getD (i).toNat dr0)).gPedal), iv (((l.getD (i).toNat dr0)).gBrake), iv (((l.getD (i).toNat dr0)).gGear), iv (((l.getD (i).toNat dr0)).gLoad)] 48, box b2 [iv ((l.getD (i).toNat dr0).gAt), iv ((l.getD (i).toNat dr0).gPedal), iv ((l.getD (i).toNat dr0).gBrake), iv ((l.getD (i).toNat dr0).gGear), iv ((l.getD (i).toNat dr0).gLoad)] 27] w34 := S82.front 4 rfl
    clear S82
    have hz8 : (⟨#[32]⟩ : ByteArray).size ≤ 48 := Nat.le_of_ble_eq_true rfl
    refine J.callF 28 31 #[.pointer (some ⟨b1, 0, none⟩), .string ⟨#[32]⟩] hb31 (by kernel_rfl) (bwrite_any b1 (some ⟨b1, 0, none⟩) ra7 rc7 tt7 (⟨#[32]⟩ : ByteArray) _ _ _ S83 (by first | assumption | exact .inl rfl | exact .inr rfl) (by omega)) ?_
    obtain ⟨tt8, htt8⟩ : ∃ y : ByteArray, y = tt7 ++ (⟨#[32]⟩ : ByteArray) := ⟨_, rfl⟩
    have hstt8 : tt8.size = tt7.size + (⟨#[32]⟩ : ByteArray).size := by rw [htt8]; exact size_app _ _
    rintro _ w35 ⟨rfl, ra8, rc8, S84⟩
    rw [show tt7 ++ (⟨#[32]⟩ : ByteArray) = tt8 from htt8.symm] at S84
    replace S84 : Sep w [box b1 [.pointer (some ⟨b1, 0, none⟩), .slice ra8 ((ls tt8).length) rc8] 62, rowOf enc8 ra8 rc8 5 1 (ls tt8), box b8 kvD10_2 51, box b3 [iv (((l.getD (i).toNat dr0)).gAt), iv (((l.getD (i).toNat dr0)).gPedal), iv (((l.getD (i).toNat dr0)).gBrake), iv (((l.getD (i).toNat dr0)).gGear), iv (((l.getD (i).toNat dr0)).gLoad)] 48, box b2 [iv ((l.getD (i).toNat dr0).gAt), iv ((l.getD (i).toNat dr0).gPedal), iv ((l.getD (i).toNat dr0).gBrake), iv ((l.getD (i).toNat dr0).gGear), iv ((l.getD (i).toNat dr0).gLoad)] 27] w35 := S84
    have S85 := S84.front 1 rfl
    clear S84
    have S86 := S85.front 4 rfl
    clear S85
    have S87 := S86.front 4 rfl
    clear S86
    have S88 : Sep w [box b8 kvD10_2 51, box b3 [iv (((l.getD (i).toNat dr0)).gAt), iv (((l.getD (i).toNat dr0)).gPedal), iv (((l.getD (i).toNat dr0)).gBrake), iv (((l.getD (i).toNat dr0)).gGear), iv (((l.getD (i).toNat dr0)).gLoad)] 48, box b2 [iv ((l.getD (i).toNat dr0).gAt), iv ((l.getD (i).toNat dr0).gPedal), iv ((l.getD (i).toNat dr0).gBrake), iv ((l.getD (i).toNat dr0).gGear), iv ((l.getD (i).toNat dr0).gLoad)] 27, rowOf enc8 ra8 rc8 5 1 (ls tt8), box b1 [.pointer (some ⟨b1, 0, none⟩), .slice ra8 ((ls tt8).length) rc8] 62] w35 := S87.front 4 rfl
    clear S87
    refine J.run 1 K17_30 [(8, iv 4), (9, .pointer (some ⟨b8, 0, none⟩)), (22, iv 4), (21, .agg kvD10_5), (7, .pointer (some ⟨b3, 0, none⟩)), (15, iv i), (14, iv (n : Int)), (13, .slice a n c), (4, .pointer (some ⟨b1, 0, none⟩))] w35 (by kernel_rfl) ?_
    refine J.drawPlan (fun w_ => Sep w [box b8 kvD10_2 51, box b3 [iv (((l.getD (i).toNat dr0)).gAt), iv (((l.getD (i).toNat dr0)).gPedal), iv (((l.getD (i).toNat dr0)).gBrake), iv (((l.getD (i).toNat dr0)).gGear), iv (((l.getD (i).toNat dr0)).gLoad)] 48, box b2 [iv ((l.getD (i).toNat dr0).gAt), iv ((l.getD (i).toNat dr0).gPedal), iv ((l.getD (i).toNat dr0).gBrake), iv ((l.getD (i).toNat dr0).gGear), iv ((l.getD (i).toNat dr0).gLoad)] 27] w_) [(0, true), (1, true), (2, true), (3, true), (4, true), (5, true), (6, false), (7, true), (8, false)] S88 Tryd.mixed (by kernel_rfl) (planOK_of (T := [(0, some 29, 512), (1, some 30, 536870912), (2, some 31, 1073741824), (0, some 32, 256), (8, some 33, 4294967424), (16, some 34, 8589934592), (32, some 35, 17179869184), (68, some 36, 36507222016), (192, some 37, 68719476752)]) (by kernel_rfl) (by kernel_rfl)) ?_
    intro w36 S89
    refine PB.mk ((S89.erase 4).erase 3) ?_
    refine PL.take 0 29 (.pointer (some ⟨b8, 0, none⟩)) (fun _ _ => by kernel_rfl) ?_
    refine PL.takeOK 1 (fun w_ S_ => OK.ldBox S_ 0 30 9 0 (.string ⟨#[108, 111, 97, 100]⟩) (by kernel_rfl) rfl (by kernel_rfl)) rfl ?_
    refine PL.takeOK 2 (fun w_ S_ => OK.cat 31 (⟨#[108, 111, 97, 100]⟩) (⟨#[32]⟩) (⟨#[108, 111, 97, 100, 32]⟩) (by kernel_rfl) (by first | decide | (simp only [lit_size, List.size_toArray, List.length_cons, List.length_nil]; omega)) (by decide +kernel)) rfl ?_
    refine PL.take 3 32 (iv 4) (fun _ _ => by kernel_rfl) ?_
    refine PL.takeOK 4 (fun w_ S_ => OK.indexP 33 48 5 1 b3 0 4 4 (by kernel_rfl) (by kernel_rfl) (by omega) (by omega)) rfl ?_
    refine PL.head (.pointer (some ⟨b3, 4, none⟩)) (by first | rfl | (rw [Nat.zero_add, Nat.mul_one])) ?_
    refine PL.takeOK 5 (fun w_ S_ => OK.ldBox S_ 1 34 3 4 (iv (((l.getD (i).toNat dr0)).gLoad)) (by kernel_rfl) rfl (by kernel_rfl)) rfl ?_
    refine PL.callF 35 32 #[iv (((l.getD (i).toNat dr0)).gLoad)] hb32 (by kernel_rfl) (atext_any (((l.getD (i).toNat dr0)).gLoad) _ (by omega) (tabW_sep hW S89)) ?_
    rintro _ w37 ⟨rfl, T8⟩
    have S90 : Sep w [box b8 kvD10_2 51, box b3 [iv (((l.getD (i).toNat dr0)).gAt), iv (((l.getD (i).toNat dr0)).gPedal), iv (((l.getD (i).toNat dr0)).gBrake), iv (((l.getD (i).toNat dr0)).gGear), iv (((l.getD (i).toNat dr0)).gLoad)] 48, box b2 [iv ((l.getD (i).toNat dr0).gAt), iv ((l.getD (i).toNat dr0).gPedal), iv ((l.getD (i).toNat dr0).gBrake), iv ((l.getD (i).toNat dr0).gGear), iv ((l.getD (i).toNat dr0).gLoad)] 27, rowOf enc8 ra8 rc8 5 1 (ls tt8), box b1 [.pointer (some ⟨b1, 0, none⟩), .slice ra8 ((ls tt8).length) rc8] 62] w37 := S89.trans T8
    clear T8 S89
    have := itoaB_size (n := (((l.getD (i).toNat dr0)).gLoad)) (by omega)
    refine PB.mk ((S90.erase 4).erase 3) ?_
    refine PL.takeOK 7 (fun w_ S_ => OK.cat 36 (⟨#[108, 111, 97, 100, 32]⟩ : ByteArray) (itoaB (((l.getD (i).toNat dr0)).gLoad)) ((⟨#[108, 111, 97, 100, 32]⟩ : ByteArray) ++ (itoaB (((l.getD (i).toNat dr0)).gLoad))) (by kernel_rfl) (by first | decide | (simp only [lit_size, List.size_toArray, List.length_cons, List.length_nil]; omega)) (rfl)) rfl ?_
    have S91 := S90.front 3 rfl
    clear S90
    have S92 : Sep w [box b1 [.pointer (some ⟨b1, 0, none⟩), .slice ra8 ((ls tt8).length) rc8] 62, rowOf enc8 ra8 rc8 5 1 (ls tt8), box b8 kvD10_2 51, box b3 [iv (((l.getD (i).toNat dr0)).gAt), iv (((l.getD (i).toNat dr0)).gPedal), iv (((l.getD (i).toNat dr0)).gBrake), iv (((l.getD (i).toNat dr0)).gGear), iv (((l.getD (i).toNat dr0)).gLoad)] 48, box b2 [iv ((l.getD (i).toNat dr0).gAt), iv ((l.getD (i).toNat dr0).gPedal), iv ((l.getD (i).toNat dr0).gBrake), iv ((l.getD (i).toNat dr0).gGear), iv ((l.getD (i).toNat dr0).gLoad)] 27] w37 := S91.front 4 rfl
    clear S91
    have hz9 : ((⟨#[108, 111, 97, 100, 32]⟩ : ByteArray) ++ (itoaB (((l.getD (i).toNat dr0)).gLoad))).size ≤ 48 := by rw [size_app]; show 5 + _ ≤ 48; clear hga hll; omega
    refine PL.callF 37 31 #[.pointer (some ⟨b1, 0, none⟩), .string ((⟨#[108, 111, 97, 100, 32]⟩ : ByteArray) ++ (itoaB (((l.getD (i).toNat dr0)).gLoad)))] hb31 (by kernel_rfl) (bwrite_any b1 (some ⟨b1, 0, none⟩) ra8 rc8 tt8 ((⟨#[108, 111, 97, 100, 32]⟩ : ByteArray) ++ (itoaB (((l.getD (i).toNat dr0)).gLoad))) _ _ _ S92 (by first | assumption | exact .inl rfl | exact .inr rfl) (by omega)) ?_
    obtain ⟨tt9, htt9⟩ : ∃ y : ByteArray, y = tt8 ++ ((⟨#[108, 111, 97, 100, 32]⟩ : ByteArray) ++ (itoaB (((l.getD (i).toNat dr0)).gLoad))) := ⟨_, rfl⟩
    have hstt9 : tt9.size = tt8.size + ((⟨#[108, 111, 97, 100, 32]⟩ : ByteArray) ++ (itoaB (((l.getD (i).toNat dr0)).gLoad))).size := by rw [htt9]; exact size_app _ _
    rintro _ w38 ⟨rfl, ra9, rc9, S93⟩
    rw [show tt8 ++ ((⟨#[108, 111, 97, 100, 32]⟩ : ByteArray) ++ (itoaB (((l.getD (i).toNat dr0)).gLoad))) = tt9 from htt9.symm] at S93
    replace S93 : Sep w [box b1 [.pointer (some ⟨b1, 0, none⟩), .slice ra9 ((ls tt9).length) rc9] 62, rowOf enc8 ra9 rc9 5 1 (ls tt9), box b8 kvD10_2 51, box b3 [iv (((l.getD (i).toNat dr0)).gAt), iv (((l.getD (i).toNat dr0)).gPedal), iv (((l.getD (i).toNat dr0)).gBrake), iv (((l.getD (i).toNat dr0)).gGear), iv (((l.getD (i).toNat dr0)).gLoad)] 48, box b2 [iv ((l.getD (i).toNat dr0).gAt), iv ((l.getD (i).toNat dr0).gPedal), iv ((l.getD (i).toNat dr0).gBrake), iv ((l.getD (i).toNat dr0).gGear), iv ((l.getD (i).toNat dr0).gLoad)] 27] w38 := S93
    have S94 := S93.front 1 rfl
    clear S93
    have S95 := S94.front 4 rfl
    clear S94
    have S96 := S95.front 4 rfl
    clear S95
    have S97 : Sep w [box b8 kvD10_2 51, box b3 [iv (((l.getD (i).toNat dr0)).gAt), iv (((l.getD (i).toNat dr0)).gPedal), iv (((l.getD (i).toNat dr0)).gBrake), iv (((l.getD (i).toNat dr0)).gGear), iv (((l.getD (i).toNat dr0)).gLoad)] 48, box b2 [iv ((l.getD (i).toNat dr0).gAt), iv ((l.getD (i).toNat dr0).gPedal), iv ((l.getD (i).toNat dr0).gBrake), iv ((l.getD (i).toNat dr0).gGear), iv ((l.getD (i).toNat dr0).gLoad)] 27, rowOf enc8 ra9 rc9 5 1 (ls tt9), box b1 [.pointer (some ⟨b1, 0, none⟩), .slice ra9 ((ls tt9).length) rc9] 62] w38 := S96.front 4 rfl
    clear S96
    refine PB.mk ((S97.erase 4).erase 3) ?_
    refine PL.done ?_
    refine J.run 0 (rRest K17_30) [(22, iv 4), (21, .agg kvD10_5), (7, .pointer (some ⟨b3, 0, none⟩)), (15, iv i), (14, iv (n : Int)), (13, .slice a n c), (4, .pointer (some ⟨b1, 0, none⟩))] w38 (by kernel_rfl) ?_
    refine J.run 6 K17_31 [(22, iv 5), (21, .agg kvD10_5), (7, .pointer (some ⟨b3, 0, none⟩)), (15, iv i), (14, iv (n : Int)), (13, .slice a n c), (4, .pointer (some ⟨b1, 0, none⟩))] w38 (by kernel_rfl) ?_
    have S98 : Sep w [box b3 [iv (((l.getD (i).toNat dr0)).gAt), iv (((l.getD (i).toNat dr0)).gPedal), iv (((l.getD (i).toNat dr0)).gBrake), iv (((l.getD (i).toNat dr0)).gGear), iv (((l.getD (i).toNat dr0)).gLoad)] 48, box b2 [iv ((l.getD (i).toNat dr0).gAt), iv ((l.getD (i).toNat dr0).gPedal), iv ((l.getD (i).toNat dr0).gBrake), iv ((l.getD (i).toNat dr0).gGear), iv ((l.getD (i).toNat dr0).gLoad)] 27, rowOf enc8 ra9 rc9 5 1 (ls tt9), box b1 [.pointer (some ⟨b1, 0, none⟩), .slice ra9 ((ls tt9).length) rc9] 62] w38 := S97.erase 0
    clear S97
    refine J.run 8 K17_32 [(15, iv i), (14, iv (n : Int)), (13, .slice a n c), (4, .pointer (some ⟨b1, 0, none⟩))] w38 (by kernel_rfl) ?_
    have S99 := S98.front 2 rfl
    clear S98
    have S100 : Sep w [box b1 [.pointer (some ⟨b1, 0, none⟩), .slice ra9 ((ls tt9).length) rc9] 62, rowOf enc8 ra9 rc9 5 1 (ls tt9), box b3 [iv (((l.getD (i).toNat dr0)).gAt), iv (((l.getD (i).toNat dr0)).gPedal), iv (((l.getD (i).toNat dr0)).gBrake), iv (((l.getD (i).toNat dr0)).gGear), iv (((l.getD (i).toNat dr0)).gLoad)] 48, box b2 [iv ((l.getD (i).toNat dr0).gAt), iv ((l.getD (i).toNat dr0).gPedal), iv ((l.getD (i).toNat dr0).gBrake), iv ((l.getD (i).toNat dr0).gGear), iv ((l.getD (i).toNat dr0).gLoad)] 27] w38 := S99.front 3 rfl
    clear S99
    have hz10 : (⟨#[10]⟩ : ByteArray).size ≤ 48 := Nat.le_of_ble_eq_true rfl
    refine J.callF 39 31 #[.pointer (some ⟨b1, 0, none⟩), .string ⟨#[10]⟩] hb31 (by kernel_rfl) (bwrite_any b1 (some ⟨b1, 0, none⟩) ra9 rc9 tt9 (⟨#[10]⟩ : ByteArray) _ _ _ S100 (by first | assumption | exact .inl rfl | exact .inr rfl) (by omega)) ?_
    obtain ⟨tt10, htt10⟩ : ∃ y : ByteArray, y = tt9 ++ (⟨#[10]⟩ : ByteArray) := ⟨_, rfl⟩
    have hstt10 : tt10.size = tt9.size + (⟨#[10]⟩ : ByteArray).size := by rw [htt10]; exact size_app _ _
    rintro _ w39 ⟨rfl, ra10, rc10, S101⟩
    rw [show tt9 ++ (⟨#[10]⟩ : ByteArray) = tt10 from htt10.symm] at S101
    replace S101 : Sep w [box b1 [.pointer (some ⟨b1, 0, none⟩), .slice ra10 ((ls tt10).length) rc10] 62, rowOf enc8 ra10 rc10 5 1 (ls tt10), box b3 [iv (((l.getD (i).toNat dr0)).gAt), iv (((l.getD (i).toNat dr0)).gPedal), iv (((l.getD (i).toNat dr0)).gBrake), iv (((l.getD (i).toNat dr0)).gGear), iv (((l.getD (i).toNat dr0)).gLoad)] 48, box b2 [iv ((l.getD (i).toNat dr0).gAt), iv ((l.getD (i).toNat dr0).gPedal), iv ((l.getD (i).toNat dr0).gBrake), iv ((l.getD (i).toNat dr0).gGear), iv ((l.getD (i).toNat dr0).gLoad)] 27] w39 := S101
    have S102 := S101.front 1 rfl
    clear S101
    have S103 := S102.front 3 rfl
    clear S102
    have S104 : Sep w [box b3 [iv (((l.getD (i).toNat dr0)).gAt), iv (((l.getD (i).toNat dr0)).gPedal), iv (((l.getD (i).toNat dr0)).gBrake), iv (((l.getD (i).toNat dr0)).gGear), iv (((l.getD (i).toNat dr0)).gLoad)] 48, box b2 [iv ((l.getD (i).toNat dr0).gAt), iv ((l.getD (i).toNat dr0).gPedal), iv ((l.getD (i).toNat dr0).gBrake), iv ((l.getD (i).toNat dr0).gGear), iv ((l.getD (i).toNat dr0).gLoad)] 27, rowOf enc8 ra10 rc10 5 1 (ls tt10), box b1 [.pointer (some ⟨b1, 0, none⟩), .slice ra10 ((ls tt10).length) rc10] 62] w39 := S103.front 3 rfl
    clear S103
    refine J.run 4 K17_33 [(40, iv (IntKind.wrap .i64 (i + 1))), (14, iv (n : Int)), (13, .slice a n c), (4, .pointer (some ⟨b1, 0, none⟩))] w39 (by kernel_rfl) ?_
    refine J.head (iv (i + 1)) (congrArg (Value.int .i64) (IntWalk.i64_in _ (by omega))) ?_
    refine J.run 3 K17_3 [(15, iv (i + 1)), (14, iv (n : Int)), (13, .slice a n c), (4, .pointer (some ⟨b1, 0, none⟩))] w39 (by kernel_rfl) ?_
    have S105 : Sep w [box b3 [iv (((l.getD (i).toNat dr0)).gAt), iv (((l.getD (i).toNat dr0)).gPedal), iv (((l.getD (i).toNat dr0)).gBrake), iv (((l.getD (i).toNat dr0)).gGear), iv (((l.getD (i).toNat dr0)).gLoad)] 48, rowOf enc8 ra10 rc10 5 1 (ls tt10), box b1 [.pointer (some ⟨b1, 0, none⟩), .slice ra10 ((ls tt10).length) rc10] 62] w39 := S104.erase 1
    clear S104
    have S106 : Sep w [rowOf enc8 ra10 rc10 5 1 (ls tt10), box b1 [.pointer (some ⟨b1, 0, none⟩), .slice ra10 ((ls tt10).length) rc10] 62] w39 := S105.erase 0
    clear S105
    refine J.run 0 K17_3 [(15, iv (i + 1)), (14, iv (n : Int)), (13, .slice a n c), (4, .pointer (some ⟨b1, 0, none⟩))] w39 (by kernel_rfl) ?_
    exact ih1 _ (show ((n : Int) - (i + 1)).toNat < mm1 from by omega) (some ⟨b1, 0, none⟩) ra10 rc10 tt10 (i + 1) w39 (by omega) (by omega) (.inr rfl) (by rw [lines_succ h0 ht]; rw [htt10, htt9, htt8, htt7, htt6, htt5, htt4, htt3, htt2, htt1]; rfl) S106 rfl
   ·skip
    refine J.head (.bool false) (congrArg Value.bool (decide_eq_false fk2)) ?_
    refine J.run 4 K17_34 [(4, .pointer (some ⟨b1, 0, none⟩))] w3 (by kernel_rfl) ?_
    have S107 := S4.front 0 rfl
    clear S4
    have S108 : Sep w [box b1 [.pointer pp, .slice ra ((ls t).length) rc] 62, rowOf enc8 ra rc 5 1 (ls t)] w3 := S107.front 1 rfl
    clear S107
    refine J.callF 41 33 #[.pointer (some ⟨b1, 0, none⟩)] hb33 (by kernel_rfl) (bstring_any b1 pp ra rc t _ _ _ S108 (by first | assumption | exact .inl rfl | exact .inr rfl) (offs_nil _)) ?_
    rintro _ w40 ⟨rfl, S109⟩
    replace S109 : Sep w [] w40 := S109
    refine J.run 3 K17_35 [(3, iv 0), (2, .string t)] w40 (by kernel_rfl) ?_
    refine J.ret Tryd.f17 [.string t, iv 0] Tryd.func17 ⟨by kernel_rfl, by kernel_rfl, trivial⟩ ?_
    refine hR _ _ ?_
    exact ⟨by rw [texte_yes hv, ht, show i.toNat = l.length by omega, text_yes hv]; rfl, S109.nil⟩
  exact L17_1 _ none none 0 ByteArray.empty 0 w2 (by omega) (by omega) (.inl rfl) (rfl) S3 rfl
 ·skip
  refine J.head (.bool true) (congrArg Value.bool (by rw [fk1]; rfl)) ?_
  refine J.run 6 K17_36 [(3, iv 1), (2, .string ByteArray.empty)] w1 (by kernel_rfl) ?_
  refine J.ret Tryd.f17 [.string ByteArray.empty, iv 1] Tryd.func17 ⟨by kernel_rfl, by kernel_rfl, trivial⟩ ?_
  refine hR _ _ ?_
  exact ⟨by rw [text_no fk1, texte_no fk1]; rfl, S1.nil⟩

end Go.Proofs.YthhdaackhfffiaaDoor

