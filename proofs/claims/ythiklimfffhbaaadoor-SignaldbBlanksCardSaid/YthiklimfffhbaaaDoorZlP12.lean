/- Walks of functions of this seat, printed by a program over the engine. Conditions: as each theorem says. -/
import Derived.Test.YthiklimfffhbaaaDoorZlP11
namespace Go.Proofs.YthiklimfffhbaaaDoor
noncomputable section
open Go.Eng Go.RowKit
set_option linter.unusedSimpArgs false
set_option linter.unusedVariables false
theorem hb39 : HasBody Tryd.prog 39 := fun _ _ => by kernel_rfl
def K39_0 := adv 2 [] (bodyOf Tryd.f39)
def K39_1 := adv 7 [] (popK K39_0)
set_option maxRecDepth 20000 in
set_option maxHeartbeats 20000000 in
theorem mktext_any (v0 : Option Addr) (w0 : World) (L0 : List Eng.Claim) (w : World) (S0 : Sep w0 (L0) w) : Ret Tryd.prog 39 #[.pointer v0] w (fun r w' => ∃ c0, r = .func (.func 59) #[] #[.pointer (some ⟨c0, 0, none⟩)] ∧ Sep w0 (box c0 [.pointer v0] 84 :: L0) w') := by
 refine Ret.named fun R hR => ?_
 refine Ret.of_J (N := 4) [(0, .pointer v0)] Tryd.func39 rfl rfl (Nat.le_of_ble_eq_true (by kernel_rfl)) (by kernel_rfl) ?_
 refine J.run 2 K39_0 [(0, .pointer v0)] w (by kernel_rfl) ?_
 refine J.new S0 1 [.pointer v0] 84 (by kernel_rfl) ?_
 intro b1 w1 S1
 refine J.run 7 K39_1 [(2, .func (.func 59) #[] #[.pointer (some ⟨b1, 0, none⟩)])] w1 (by kernel_rfl) ?_
 refine J.ret Tryd.f39 [.func (.func 59) #[] #[.pointer (some ⟨b1, 0, none⟩)]] Tryd.func39 ⟨by kernel_rfl, trivial⟩ ?_
 refine hR _ _ ?_
 exact ⟨_, rfl, S1⟩

theorem hb40 : HasBody Tryd.prog 40 := fun _ _ => by kernel_rfl
def K40_0 := adv 2 [] (bodyOf Tryd.f40)
def K40_1 := adv 7 [] (popK K40_0)
set_option maxRecDepth 20000 in
set_option maxHeartbeats 20000000 in
theorem mknumber_any (v0 : Option Addr) (w0 : World) (L0 : List Eng.Claim) (w : World) (S0 : Sep w0 (L0) w) : Ret Tryd.prog 40 #[.pointer v0] w (fun r w' => ∃ c0, r = .func (.func 60) #[] #[.pointer (some ⟨c0, 0, none⟩)] ∧ Sep w0 (box c0 [.pointer v0] 86 :: L0) w') := by
 refine Ret.named fun R hR => ?_
 refine Ret.of_J (N := 4) [(0, .pointer v0)] Tryd.func40 rfl rfl (Nat.le_of_ble_eq_true (by kernel_rfl)) (by kernel_rfl) ?_
 refine J.run 2 K40_0 [(0, .pointer v0)] w (by kernel_rfl) ?_
 refine J.new S0 1 [.pointer v0] 86 (by kernel_rfl) ?_
 intro b1 w1 S1
 refine J.run 7 K40_1 [(2, .func (.func 60) #[] #[.pointer (some ⟨b1, 0, none⟩)])] w1 (by kernel_rfl) ?_
 refine J.ret Tryd.f40 [.func (.func 60) #[] #[.pointer (some ⟨b1, 0, none⟩)]] Tryd.func40 ⟨by kernel_rfl, trivial⟩ ?_
 refine hR _ _ ?_
 exact ⟨_, rfl, S1⟩

theorem hb42 : HasBody Tryd.prog 42 := fun _ _ => by kernel_rfl
def K42_0 := adv 2 [] (bodyOf Tryd.f42)
def K42_1 := adv 7 [] (popK (popK (popK K42_0)))
set_option maxRecDepth 20000 in
set_option maxHeartbeats 20000000 in
theorem mkchoice_any (v0 : Option Addr) (v1 v2 : ByteArray) (w0 : World) (L0 : List Eng.Claim) (w : World) (S0 : Sep w0 (L0) w) : Ret Tryd.prog 42 #[.pointer v0, .string v1, .string v2] w (fun r w' => ∃ c0 c1 c2, r = .func (.func 63) #[] #[.pointer (some ⟨c1, 0, none⟩), .pointer (some ⟨c0, 0, none⟩), .pointer (some ⟨c2, 0, none⟩)] ∧ Sep w0 (box c2 [.string v2] 9 :: box c1 [.string v1] 9 :: box c0 [.pointer v0] 88 :: L0) w') := by
 refine Ret.named fun R hR => ?_
 refine Ret.of_J (N := 8) [(0, .pointer v0), (1, .string v1), (2, .string v2)] Tryd.func42 rfl rfl (Nat.le_of_ble_eq_true (by kernel_rfl)) (by kernel_rfl) ?_
 refine J.run 2 K42_0 [(0, .pointer v0), (1, .string v1), (2, .string v2)] w (by kernel_rfl) ?_
 refine J.new S0 3 [.pointer v0] 88 (by kernel_rfl) ?_
 intro b1 w1 S1
 refine J.new S1 4 [.string v1] 9 (by kernel_rfl) ?_
 intro b2 w2 S2
 refine J.new S2 5 [.string v2] 9 (by kernel_rfl) ?_
 intro b3 w3 S3
 refine J.run 7 K42_1 [(6, .func (.func 63) #[] #[.pointer (some ⟨b2, 0, none⟩), .pointer (some ⟨b1, 0, none⟩), .pointer (some ⟨b3, 0, none⟩)])] w3 (by kernel_rfl) ?_
 refine J.ret Tryd.f42 [.func (.func 63) #[] #[.pointer (some ⟨b2, 0, none⟩), .pointer (some ⟨b1, 0, none⟩), .pointer (some ⟨b3, 0, none⟩)]] Tryd.func42 ⟨by kernel_rfl, trivial⟩ ?_
 refine hR _ _ ?_
 exact ⟨_, _, _, rfl, S3⟩

theorem hb59 : HasBody Tryd.prog 59 := fun _ _ => by kernel_rfl
def K59_0 := adv 6 [] (bodyOf Tryd.f59)
def K59_1 := adv 2 [] (popK K59_0)
def K59_2 := adv 5 [] (popK K59_1)
set_option maxRecDepth 20000 in
set_option maxHeartbeats 20000000 in
theorem text34_0 (b c0 : Nat) (v0 v1 v2 v3 v4 : Value) (s : ByteArray) (w0 : World) (L0 : List Eng.Claim) (w : World) (S0 : Sep w0 (box c0 [.pointer (some ⟨b, 0, none⟩)] 84 :: box b [v0, v1, v2, v3, v4] 34 :: L0) w) : Ret Tryd.prog 59 #[.string s, .pointer (some ⟨c0, 0, none⟩)] w (fun v w' => v = .bool true ∧ Sep w0 (box c0 [.pointer (some ⟨b, 0, none⟩)] 84 :: box b [.string s, v1, v2, v3, v4] 34 :: L0) w') := by
 refine Ret.named fun R hR => ?_
 refine Ret.of_J (N := 7) [(0, .string s), (1, .pointer (some ⟨c0, 0, none⟩))] Tryd.func59 rfl rfl (Nat.le_of_ble_eq_true (by kernel_rfl)) (by kernel_rfl) ?_
 refine J.run 6 K59_0 [(0, .string s), (1, .pointer (some ⟨c0, 0, none⟩))] w (by kernel_rfl) ?_
 refine J.ok (OK.ldBox S0 0 4 84 0 (.pointer (some ⟨b, 0, none⟩)) (by kernel_rfl) rfl (by kernel_rfl)) ?_
 refine J.run 2 K59_1 [(6, .pointer (some ⟨b, 0, none⟩)), (5, .string s)] w (by kernel_rfl) ?_
 refine J.stBox S0 1 9 0 (.string s) [.string s, v1, v2, v3, v4] (box c0 [.pointer (some ⟨b, 0, none⟩)] 84 :: box b [.string s, v1, v2, v3, v4] 34 :: L0) (by kernel_rfl) rfl (by kernel_rfl) (by kernel_rfl) rfl ?_
 intro w1 S1
 refine J.run 5 K59_2 [(3, .bool true)] w1 (by kernel_rfl) ?_
 refine J.ret Tryd.f59 [.bool true] Tryd.func59 ⟨by kernel_rfl, trivial⟩ ?_
 refine hR _ _ ?_
 exact ⟨rfl, S1⟩

def K59a_0 := adv 6 [] (bodyOf Tryd.f59)
def K59a_1 := adv 2 [] (popK K59a_0)
def K59a_2 := adv 5 [] (popK K59a_1)
set_option maxRecDepth 20000 in
set_option maxHeartbeats 20000000 in
theorem text57_0 (b c0 : Nat) (v0 v1 v2 v3 v4 v5 v6 v7 v8 v9 : Value) (s : ByteArray) (w0 : World) (L0 : List Eng.Claim) (w : World) (S0 : Sep w0 (box c0 [.pointer (some ⟨b, 0, none⟩)] 84 :: box b [v0, v1, v2, v3, v4, v5, v6, v7, v8, v9] 57 :: L0) w) : Ret Tryd.prog 59 #[.string s, .pointer (some ⟨c0, 0, none⟩)] w (fun v w' => v = .bool true ∧ Sep w0 (box c0 [.pointer (some ⟨b, 0, none⟩)] 84 :: box b [.string s, v1, v2, v3, v4, v5, v6, v7, v8, v9] 57 :: L0) w') := by
 refine Ret.named fun R hR => ?_
 refine Ret.of_J (N := 7) [(0, .string s), (1, .pointer (some ⟨c0, 0, none⟩))] Tryd.func59 rfl rfl (Nat.le_of_ble_eq_true (by kernel_rfl)) (by kernel_rfl) ?_
 refine J.run 6 K59a_0 [(0, .string s), (1, .pointer (some ⟨c0, 0, none⟩))] w (by kernel_rfl) ?_
 refine J.ok (OK.ldBox S0 0 4 84 0 (.pointer (some ⟨b, 0, none⟩)) (by kernel_rfl) rfl (by kernel_rfl)) ?_
 refine J.run 2 K59a_1 [(6, .pointer (some ⟨b, 0, none⟩)), (5, .string s)] w (by kernel_rfl) ?_
 refine J.stBox S0 1 9 0 (.string s) [.string s, v1, v2, v3, v4, v5, v6, v7, v8, v9] (box c0 [.pointer (some ⟨b, 0, none⟩)] 84 :: box b [.string s, v1, v2, v3, v4, v5, v6, v7, v8, v9] 57 :: L0) (by kernel_rfl) rfl (by kernel_rfl) (by kernel_rfl) rfl ?_
 intro w1 S1
 refine J.run 5 K59a_2 [(3, .bool true)] w1 (by kernel_rfl) ?_
 refine J.ret Tryd.f59 [.bool true] Tryd.func59 ⟨by kernel_rfl, trivial⟩ ?_
 refine hR _ _ ?_
 exact ⟨rfl, S1⟩

theorem hb60 : HasBody Tryd.prog 60 := fun _ _ => by kernel_rfl
def K60_0 := adv 7 [] (bodyOf Tryd.f60)
def K60_1 := adv 8 [] (popK K60_0)
def K60_2 := adv 2 [] (popK K60_1)
def K60_3 := adv 6 [] (popK K60_2)
def K60_4 := adv 1 [] K60_3
def K60_5 := adv 3 [] (popK K60_4)
def K60_6 := adv 5 [] K60_3
set_option maxRecDepth 20000 in
set_option maxHeartbeats 20000000 in
theorem number34_1 (b c0 : Nat) (v0 v1 v2 v3 v4 : Value) (s : ByteArray) (w0 : World) (L0 : List Eng.Claim) (w : World) (S0 : Sep w0 (box c0 [.pointer (some ⟨b, 1, none⟩)] 86 :: box b [v0, v1, v2, v3, v4] 34 :: L0) w) (hs : s.size ≤ 1000000) (hW : TabW w0) : Ret Tryd.prog 60 #[.string s, .pointer (some ⟨c0, 0, none⟩)] w (fun v w' => v = .bool (numOk s) ∧ Sep w0 (box c0 [.pointer (some ⟨b, 1, none⟩)] 86 :: box b [v0, iv (parX s), v2, v3, v4] 34 :: L0) w') := by
 refine Ret.named fun R hR => ?_
 refine Ret.of_J (N := 20) [(0, .string s), (1, .pointer (some ⟨c0, 0, none⟩))] Tryd.func60 rfl rfl (Nat.le_of_ble_eq_true (by kernel_rfl)) (by kernel_rfl) ?_
 refine J.run 7 K60_0 [(7, .string s), (1, .pointer (some ⟨c0, 0, none⟩))] w (by kernel_rfl) ?_
 refine J.callF 8 61 #[.string s] hb61 (by kernel_rfl) (aparse_any s _ (by omega) (tabW_sep hW S0)) ?_
 rintro _ w1 ⟨rfl, T1⟩
 have S1 : Sep w0 (box c0 [.pointer (some ⟨b, 1, none⟩)] 86 :: box b [v0, v1, v2, v3, v4] 34 :: L0) w1 := S0.trans T1
 clear T1
 have := par_bounds s
 refine J.run 8 K60_1 [(5, iv (parE s)), (4, iv (parX s)), (1, .pointer (some ⟨c0, 0, none⟩))] w1 (by kernel_rfl) ?_
 refine J.ok (OK.ldBox S1 0 11 86 0 (.pointer (some ⟨b, 1, none⟩)) (by kernel_rfl) rfl (by kernel_rfl)) ?_
 refine J.run 2 K60_2 [(13, .pointer (some ⟨b, 1, none⟩)), (12, iv (parX s)), (5, iv (parE s)), (4, iv (parX s))] w1 (by kernel_rfl) ?_
 refine J.stBox S1 1 3 1 (iv (parX s)) [v0, iv (parX s), v2, v3, v4] (box c0 [.pointer (some ⟨b, 1, none⟩)] 86 :: box b [v0, iv (parX s), v2, v3, v4] 34 :: L0) (by kernel_rfl) rfl (by kernel_rfl) (by kernel_rfl) rfl ?_
 intro w2 S2
 refine J.run 6 K60_3 [(16, .bool ((parE s) == 0)), (4, iv (parX s))] w2 (by kernel_rfl) ?_
 by_cases fk1 : (parE s) = 0
 rotate_left
 ·skip
  refine J.head (.bool false) (congrArg Value.bool (beq_eq_false_iff_ne.2 fk1)) ?_
  refine J.run 5 K60_6 [(3, .bool false)] w2 (by kernel_rfl) ?_
  refine J.ret Tryd.f60 [.bool false] Tryd.func60 ⟨by kernel_rfl, trivial⟩ ?_
  refine hR _ _ ?_
  exact ⟨congrArg Value.bool (by rw [numOk, decide_eq_false (by omega)]; rfl), S2⟩
 refine J.head (.bool true) (congrArg Value.bool (beq_iff_eq.2 fk1)) ?_
 refine J.run 1 K60_4 [(17, iv (parX s)), (16, .bool true)] w2 (by kernel_rfl) ?_
 refine J.callF 18 62 #[iv (parX s), iv (-1099511627776), iv 1099511627776] hb62 (by kernel_rfl) (in_any (parX s) (-1099511627776) 1099511627776 _) ?_
 rintro _ w3 ⟨rfl, T2⟩
 have S3 : Sep w0 (box c0 [.pointer (some ⟨b, 1, none⟩)] 86 :: box b [v0, iv (parX s), v2, v3, v4] 34 :: L0) w3 := S2.trans T2
 clear T2 S2
 refine J.run 3 K60_5 [(3, .bool (inB (parX s) (-1099511627776) 1099511627776))] w3 (by kernel_rfl) ?_
 refine J.ret Tryd.f60 [.bool (inB (parX s) (-1099511627776) 1099511627776)] Tryd.func60 ⟨by kernel_rfl, trivial⟩ ?_
 refine hR _ _ ?_
 exact ⟨congrArg Value.bool (by rw [numOk, decide_eq_true (by omega)]; rfl), S3⟩

def K60a_0 := adv 7 [] (bodyOf Tryd.f60)
def K60a_1 := adv 8 [] (popK K60a_0)
def K60a_2 := adv 2 [] (popK K60a_1)
def K60a_3 := adv 6 [] (popK K60a_2)
def K60a_4 := adv 1 [] K60a_3
def K60a_5 := adv 3 [] (popK K60a_4)
def K60a_6 := adv 5 [] K60a_3
set_option maxRecDepth 20000 in
set_option maxHeartbeats 20000000 in
theorem number34_2 (b c0 : Nat) (v0 v1 v2 v3 v4 : Value) (s : ByteArray) (w0 : World) (L0 : List Eng.Claim) (w : World) (S0 : Sep w0 (box c0 [.pointer (some ⟨b, 2, none⟩)] 86 :: box b [v0, v1, v2, v3, v4] 34 :: L0) w) (hs : s.size ≤ 1000000) (hW : TabW w0) : Ret Tryd.prog 60 #[.string s, .pointer (some ⟨c0, 0, none⟩)] w (fun v w' => v = .bool (numOk s) ∧ Sep w0 (box c0 [.pointer (some ⟨b, 2, none⟩)] 86 :: box b [v0, v1, iv (parX s), v3, v4] 34 :: L0) w') := by
 refine Ret.named fun R hR => ?_
 refine Ret.of_J (N := 20) [(0, .string s), (1, .pointer (some ⟨c0, 0, none⟩))] Tryd.func60 rfl rfl (Nat.le_of_ble_eq_true (by kernel_rfl)) (by kernel_rfl) ?_
 refine J.run 7 K60a_0 [(7, .string s), (1, .pointer (some ⟨c0, 0, none⟩))] w (by kernel_rfl) ?_
 refine J.callF 8 61 #[.string s] hb61 (by kernel_rfl) (aparse_any s _ (by omega) (tabW_sep hW S0)) ?_
 rintro _ w1 ⟨rfl, T1⟩
 have S1 : Sep w0 (box c0 [.pointer (some ⟨b, 2, none⟩)] 86 :: box b [v0, v1, v2, v3, v4] 34 :: L0) w1 := S0.trans T1
 clear T1
 have := par_bounds s
 refine J.run 8 K60a_1 [(5, iv (parE s)), (4, iv (parX s)), (1, .pointer (some ⟨c0, 0, none⟩))] w1 (by kernel_rfl) ?_
 refine J.ok (OK.ldBox S1 0 11 86 0 (.pointer (some ⟨b, 2, none⟩)) (by kernel_rfl) rfl (by kernel_rfl)) ?_
 refine J.run 2 K60a_2 [(13, .pointer (some ⟨b, 2, none⟩)), (12, iv (parX s)), (5, iv (parE s)), (4, iv (parX s))] w1 (by kernel_rfl) ?_
 refine J.stBox S1 1 3 2 (iv (parX s)) [v0, v1, iv (parX s), v3, v4] (box c0 [.pointer (some ⟨b, 2, none⟩)] 86 :: box b [v0, v1, iv (parX s), v3, v4] 34 :: L0) (by kernel_rfl) rfl (by kernel_rfl) (by kernel_rfl) rfl ?_
 intro w2 S2
 refine J.run 6 K60a_3 [(16, .bool ((parE s) == 0)), (4, iv (parX s))] w2 (by kernel_rfl) ?_
 by_cases fk1 : (parE s) = 0
 rotate_left
 ·skip
  refine J.head (.bool false) (congrArg Value.bool (beq_eq_false_iff_ne.2 fk1)) ?_
  refine J.run 5 K60a_6 [(3, .bool false)] w2 (by kernel_rfl) ?_
  refine J.ret Tryd.f60 [.bool false] Tryd.func60 ⟨by kernel_rfl, trivial⟩ ?_
  refine hR _ _ ?_
  exact ⟨congrArg Value.bool (by rw [numOk, decide_eq_false (by omega)]; rfl), S2⟩
 refine J.head (.bool true) (congrArg Value.bool (beq_iff_eq.2 fk1)) ?_
 refine J.run 1 K60a_4 [(17, iv (parX s)), (16, .bool true)] w2 (by kernel_rfl) ?_
 refine J.callF 18 62 #[iv (parX s), iv (-1099511627776), iv 1099511627776] hb62 (by kernel_rfl) (in_any (parX s) (-1099511627776) 1099511627776 _) ?_
 rintro _ w3 ⟨rfl, T2⟩
 have S3 : Sep w0 (box c0 [.pointer (some ⟨b, 2, none⟩)] 86 :: box b [v0, v1, iv (parX s), v3, v4] 34 :: L0) w3 := S2.trans T2
 clear T2 S2
 refine J.run 3 K60a_5 [(3, .bool (inB (parX s) (-1099511627776) 1099511627776))] w3 (by kernel_rfl) ?_
 refine J.ret Tryd.f60 [.bool (inB (parX s) (-1099511627776) 1099511627776)] Tryd.func60 ⟨by kernel_rfl, trivial⟩ ?_
 refine hR _ _ ?_
 exact ⟨congrArg Value.bool (by rw [numOk, decide_eq_true (by omega)]; rfl), S3⟩

def K60b_0 := adv 7 [] (bodyOf Tryd.f60)
def K60b_1 := adv 8 [] (popK K60b_0)
def K60b_2 := adv 2 [] (popK K60b_1)
def K60b_3 := adv 6 [] (popK K60b_2)
def K60b_4 := adv 1 [] K60b_3
def K60b_5 := adv 3 [] (popK K60b_4)
def K60b_6 := adv 5 [] K60b_3
set_option maxRecDepth 20000 in
set_option maxHeartbeats 20000000 in
theorem number57_1 (b c0 : Nat) (v0 v1 v2 v3 v4 v5 v6 v7 v8 v9 : Value) (s : ByteArray) (w0 : World) (L0 : List Eng.Claim) (w : World) (S0 : Sep w0 (box c0 [.pointer (some ⟨b, 1, none⟩)] 86 :: box b [v0, v1, v2, v3, v4, v5, v6, v7, v8, v9] 57 :: L0) w) (hs : s.size ≤ 1000000) (hW : TabW w0) : Ret Tryd.prog 60 #[.string s, .pointer (some ⟨c0, 0, none⟩)] w (fun v w' => v = .bool (numOk s) ∧ Sep w0 (box c0 [.pointer (some ⟨b, 1, none⟩)] 86 :: box b [v0, iv (parX s), v2, v3, v4, v5, v6, v7, v8, v9] 57 :: L0) w') := by
 refine Ret.named fun R hR => ?_
 refine Ret.of_J (N := 20) [(0, .string s), (1, .pointer (some ⟨c0, 0, none⟩))] Tryd.func60 rfl rfl (Nat.le_of_ble_eq_true (by kernel_rfl)) (by kernel_rfl) ?_
 refine J.run 7 K60b_0 [(7, .string s), (1, .pointer (some ⟨c0, 0, none⟩))] w (by kernel_rfl) ?_
 refine J.callF 8 61 #[.string s] hb61 (by kernel_rfl) (aparse_any s _ (by omega) (tabW_sep hW S0)) ?_
 rintro _ w1 ⟨rfl, T1⟩
 have S1 : Sep w0 (box c0 [.pointer (some ⟨b, 1, none⟩)] 86 :: box b [v0, v1, v2, v3, v4, v5, v6, v7, v8, v9] 57 :: L0) w1 := S0.trans T1
 clear T1
 have := par_bounds s
 refine J.run 8 K60b_1 [(5, iv (parE s)), (4, iv (parX s)), (1, .pointer (some ⟨c0, 0, none⟩))] w1 (by kernel_rfl) ?_
 refine J.ok (OK.ldBox S1 0 11 86 0 (.pointer (some ⟨b, 1, none⟩)) (by kernel_rfl) rfl (by kernel_rfl)) ?_
 refine J.run 2 K60b_2 [(13, .pointer (some ⟨b, 1, none⟩)), (12, iv (parX s)), (5, iv (parE s)), (4, iv (parX s))] w1 (by kernel_rfl) ?_
 refine J.stBox S1 1 3 1 (iv (parX s)) [v0, iv (parX s), v2, v3, v4, v5, v6, v7, v8, v9] (box c0 [.pointer (some ⟨b, 1, none⟩)] 86 :: box b [v0, iv (parX s), v2, v3, v4, v5, v6, v7, v8, v9] 57 :: L0) (by kernel_rfl) rfl (by kernel_rfl) (by kernel_rfl) rfl ?_
 intro w2 S2
 refine J.run 6 K60b_3 [(16, .bool ((parE s) == 0)), (4, iv (parX s))] w2 (by kernel_rfl) ?_
 by_cases fk1 : (parE s) = 0
 rotate_left
 ·skip
  refine J.head (.bool false) (congrArg Value.bool (beq_eq_false_iff_ne.2 fk1)) ?_
  refine J.run 5 K60b_6 [(3, .bool false)] w2 (by kernel_rfl) ?_
  refine J.ret Tryd.f60 [.bool false] Tryd.func60 ⟨by kernel_rfl, trivial⟩ ?_
  refine hR _ _ ?_
  exact ⟨congrArg Value.bool (by rw [numOk, decide_eq_false (by omega)]; rfl), S2⟩
 refine J.head (.bool true) (congrArg Value.bool (beq_iff_eq.2 fk1)) ?_
 refine J.run 1 K60b_4 [(17, iv (parX s)), (16, .bool true)] w2 (by kernel_rfl) ?_
 refine J.callF 18 62 #[iv (parX s), iv (-1099511627776), iv 1099511627776] hb62 (by kernel_rfl) (in_any (parX s) (-1099511627776) 1099511627776 _) ?_
 rintro _ w3 ⟨rfl, T2⟩
 have S3 : Sep w0 (box c0 [.pointer (some ⟨b, 1, none⟩)] 86 :: box b [v0, iv (parX s), v2, v3, v4, v5, v6, v7, v8, v9] 57 :: L0) w3 := S2.trans T2
 clear T2 S2
 refine J.run 3 K60b_5 [(3, .bool (inB (parX s) (-1099511627776) 1099511627776))] w3 (by kernel_rfl) ?_
 refine J.ret Tryd.f60 [.bool (inB (parX s) (-1099511627776) 1099511627776)] Tryd.func60 ⟨by kernel_rfl, trivial⟩ ?_
 refine hR _ _ ?_
 exact ⟨congrArg Value.bool (by rw [numOk, decide_eq_true (by omega)]; rfl), S3⟩

def K60c_0 := adv 7 [] (bodyOf Tryd.f60)
def K60c_1 := adv 8 [] (popK K60c_0)
def K60c_2 := adv 2 [] (popK K60c_1)
def K60c_3 := adv 6 [] (popK K60c_2)
def K60c_4 := adv 1 [] K60c_3
def K60c_5 := adv 3 [] (popK K60c_4)
def K60c_6 := adv 5 [] K60c_3
set_option maxRecDepth 20000 in
set_option maxHeartbeats 20000000 in
theorem number57_2 (b c0 : Nat) (v0 v1 v2 v3 v4 v5 v6 v7 v8 v9 : Value) (s : ByteArray) (w0 : World) (L0 : List Eng.Claim) (w : World) (S0 : Sep w0 (box c0 [.pointer (some ⟨b, 2, none⟩)] 86 :: box b [v0, v1, v2, v3, v4, v5, v6, v7, v8, v9] 57 :: L0) w) (hs : s.size ≤ 1000000) (hW : TabW w0) : Ret Tryd.prog 60 #[.string s, .pointer (some ⟨c0, 0, none⟩)] w (fun v w' => v = .bool (numOk s) ∧ Sep w0 (box c0 [.pointer (some ⟨b, 2, none⟩)] 86 :: box b [v0, v1, iv (parX s), v3, v4, v5, v6, v7, v8, v9] 57 :: L0) w') := by
 refine Ret.named fun R hR => ?_
 refine Ret.of_J (N := 20) [(0, .string s), (1, .pointer (some ⟨c0, 0, none⟩))] Tryd.func60 rfl rfl (Nat.le_of_ble_eq_true (by kernel_rfl)) (by kernel_rfl) ?_
 refine J.run 7 K60c_0 [(7, .string s), (1, .pointer (some ⟨c0, 0, none⟩))] w (by kernel_rfl) ?_
 refine J.callF 8 61 #[.string s] hb61 (by kernel_rfl) (aparse_any s _ (by omega) (tabW_sep hW S0)) ?_
 rintro _ w1 ⟨rfl, T1⟩
 have S1 : Sep w0 (box c0 [.pointer (some ⟨b, 2, none⟩)] 86 :: box b [v0, v1, v2, v3, v4, v5, v6, v7, v8, v9] 57 :: L0) w1 := S0.trans T1
 clear T1
 have := par_bounds s
 refine J.run 8 K60c_1 [(5, iv (parE s)), (4, iv (parX s)), (1, .pointer (some ⟨c0, 0, none⟩))] w1 (by kernel_rfl) ?_
 refine J.ok (OK.ldBox S1 0 11 86 0 (.pointer (some ⟨b, 2, none⟩)) (by kernel_rfl) rfl (by kernel_rfl)) ?_
 refine J.run 2 K60c_2 [(13, .pointer (some ⟨b, 2, none⟩)), (12, iv (parX s)), (5, iv (parE s)), (4, iv (parX s))] w1 (by kernel_rfl) ?_
 refine J.stBox S1 1 3 2 (iv (parX s)) [v0, v1, iv (parX s), v3, v4, v5, v6, v7, v8, v9] (box c0 [.pointer (some ⟨b, 2, none⟩)] 86 :: box b [v0, v1, iv (parX s), v3, v4, v5, v6, v7, v8, v9] 57 :: L0) (by kernel_rfl) rfl (by kernel_rfl) (by kernel_rfl) rfl ?_
 intro w2 S2
 refine J.run 6 K60c_3 [(16, .bool ((parE s) == 0)), (4, iv (parX s))] w2 (by kernel_rfl) ?_
 by_cases fk1 : (parE s) = 0
 rotate_left
 ·skip
  refine J.head (.bool false) (congrArg Value.bool (beq_eq_false_iff_ne.2 fk1)) ?_
  refine J.run 5 K60c_6 [(3, .bool false)] w2 (by kernel_rfl) ?_
  refine J.ret Tryd.f60 [.bool false] Tryd.func60 ⟨by kernel_rfl, trivial⟩ ?_
  refine hR _ _ ?_
  exact ⟨congrArg Value.bool (by rw [numOk, decide_eq_false (by omega)]; rfl), S2⟩
 refine J.head (.bool true) (congrArg Value.bool (beq_iff_eq.2 fk1)) ?_
 refine J.run 1 K60c_4 [(17, iv (parX s)), (16, .bool true)] w2 (by kernel_rfl) ?_
 refine J.callF 18 62 #[iv (parX s), iv (-1099511627776), iv 1099511627776] hb62 (by kernel_rfl) (in_any (parX s) (-1099511627776) 1099511627776 _) ?_
 rintro _ w3 ⟨rfl, T2⟩
 have S3 : Sep w0 (box c0 [.pointer (some ⟨b, 2, none⟩)] 86 :: box b [v0, v1, iv (parX s), v3, v4, v5, v6, v7, v8, v9] 57 :: L0) w3 := S2.trans T2
 clear T2 S2
 refine J.run 3 K60c_5 [(3, .bool (inB (parX s) (-1099511627776) 1099511627776))] w3 (by kernel_rfl) ?_
 refine J.ret Tryd.f60 [.bool (inB (parX s) (-1099511627776) 1099511627776)] Tryd.func60 ⟨by kernel_rfl, trivial⟩ ?_
 refine hR _ _ ?_
 exact ⟨congrArg Value.bool (by rw [numOk, decide_eq_true (by omega)]; rfl), S3⟩

def K60d_0 := adv 7 [] (bodyOf Tryd.f60)
def K60d_1 := adv 8 [] (popK K60d_0)
def K60d_2 := adv 2 [] (popK K60d_1)
def K60d_3 := adv 6 [] (popK K60d_2)
def K60d_4 := adv 1 [] K60d_3
def K60d_5 := adv 3 [] (popK K60d_4)
def K60d_6 := adv 5 [] K60d_3
set_option maxRecDepth 20000 in
set_option maxHeartbeats 20000000 in
theorem number57_5 (b c0 : Nat) (v0 v1 v2 v3 v4 v5 v6 v7 v8 v9 : Value) (s : ByteArray) (w0 : World) (L0 : List Eng.Claim) (w : World) (S0 : Sep w0 (box c0 [.pointer (some ⟨b, 5, none⟩)] 86 :: box b [v0, v1, v2, v3, v4, v5, v6, v7, v8, v9] 57 :: L0) w) (hs : s.size ≤ 1000000) (hW : TabW w0) : Ret Tryd.prog 60 #[.string s, .pointer (some ⟨c0, 0, none⟩)] w (fun v w' => v = .bool (numOk s) ∧ Sep w0 (box c0 [.pointer (some ⟨b, 5, none⟩)] 86 :: box b [v0, v1, v2, v3, v4, iv (parX s), v6, v7, v8, v9] 57 :: L0) w') := by
 refine Ret.named fun R hR => ?_
 refine Ret.of_J (N := 20) [(0, .string s), (1, .pointer (some ⟨c0, 0, none⟩))] Tryd.func60 rfl rfl (Nat.le_of_ble_eq_true (by kernel_rfl)) (by kernel_rfl) ?_
 refine J.run 7 K60d_0 [(7, .string s), (1, .pointer (some ⟨c0, 0, none⟩))] w (by kernel_rfl) ?_
 refine J.callF 8 61 #[.string s] hb61 (by kernel_rfl) (aparse_any s _ (by omega) (tabW_sep hW S0)) ?_
 rintro _ w1 ⟨rfl, T1⟩
 have S1 : Sep w0 (box c0 [.pointer (some ⟨b, 5, none⟩)] 86 :: box b [v0, v1, v2, v3, v4, v5, v6, v7, v8, v9] 57 :: L0) w1 := S0.trans T1
 clear T1
 have := par_bounds s
 refine J.run 8 K60d_1 [(5, iv (parE s)), (4, iv (parX s)), (1, .pointer (some ⟨c0, 0, none⟩))] w1 (by kernel_rfl) ?_
 refine J.ok (OK.ldBox S1 0 11 86 0 (.pointer (some ⟨b, 5, none⟩)) (by kernel_rfl) rfl (by kernel_rfl)) ?_
 refine J.run 2 K60d_2 [(13, .pointer (some ⟨b, 5, none⟩)), (12, iv (parX s)), (5, iv (parE s)), (4, iv (parX s))] w1 (by kernel_rfl) ?_
 refine J.stBox S1 1 3 5 (iv (parX s)) [v0, v1, v2, v3, v4, iv (parX s), v6, v7, v8, v9] (box c0 [.pointer (some ⟨b, 5, none⟩)] 86 :: box b [v0, v1, v2, v3, v4, iv (parX s), v6, v7, v8, v9] 57 :: L0) (by kernel_rfl) rfl (by kernel_rfl) (by kernel_rfl) rfl ?_
 intro w2 S2
 refine J.run 6 K60d_3 [(16, .bool ((parE s) == 0)), (4, iv (parX s))] w2 (by kernel_rfl) ?_
 by_cases fk1 : (parE s) = 0
 rotate_left
 ·skip
  refine J.head (.bool false) (congrArg Value.bool (beq_eq_false_iff_ne.2 fk1)) ?_
  refine J.run 5 K60d_6 [(3, .bool false)] w2 (by kernel_rfl) ?_
  refine J.ret Tryd.f60 [.bool false] Tryd.func60 ⟨by kernel_rfl, trivial⟩ ?_
  refine hR _ _ ?_
  exact ⟨congrArg Value.bool (by rw [numOk, decide_eq_false (by omega)]; rfl), S2⟩
 refine J.head (.bool true) (congrArg Value.bool (beq_iff_eq.2 fk1)) ?_
 refine J.run 1 K60d_4 [(17, iv (parX s)), (16, .bool true)] w2 (by kernel_rfl) ?_
 refine J.callF 18 62 #[iv (parX s), iv (-1099511627776), iv 1099511627776] hb62 (by kernel_rfl) (in_any (parX s) (-1099511627776) 1099511627776 _) ?_
 rintro _ w3 ⟨rfl, T2⟩
 have S3 : Sep w0 (box c0 [.pointer (some ⟨b, 5, none⟩)] 86 :: box b [v0, v1, v2, v3, v4, iv (parX s), v6, v7, v8, v9] 57 :: L0) w3 := S2.trans T2
 clear T2 S2
 refine J.run 3 K60d_5 [(3, .bool (inB (parX s) (-1099511627776) 1099511627776))] w3 (by kernel_rfl) ?_
 refine J.ret Tryd.f60 [.bool (inB (parX s) (-1099511627776) 1099511627776)] Tryd.func60 ⟨by kernel_rfl, trivial⟩ ?_
 refine hR _ _ ?_
 exact ⟨congrArg Value.bool (by rw [numOk, decide_eq_true (by omega)]; rfl), S3⟩

def K60e_0 := adv 7 [] (bodyOf Tryd.f60)
def K60e_1 := adv 8 [] (popK K60e_0)
def K60e_2 := adv 2 [] (popK K60e_1)
def K60e_3 := adv 6 [] (popK K60e_2)
def K60e_4 := adv 1 [] K60e_3
def K60e_5 := adv 3 [] (popK K60e_4)
def K60e_6 := adv 5 [] K60e_3
set_option maxRecDepth 20000 in
set_option maxHeartbeats 20000000 in
theorem number57_6 (b c0 : Nat) (v0 v1 v2 v3 v4 v5 v6 v7 v8 v9 : Value) (s : ByteArray) (w0 : World) (L0 : List Eng.Claim) (w : World) (S0 : Sep w0 (box c0 [.pointer (some ⟨b, 6, none⟩)] 86 :: box b [v0, v1, v2, v3, v4, v5, v6, v7, v8, v9] 57 :: L0) w) (hs : s.size ≤ 1000000) (hW : TabW w0) : Ret Tryd.prog 60 #[.string s, .pointer (some ⟨c0, 0, none⟩)] w (fun v w' => v = .bool (numOk s) ∧ Sep w0 (box c0 [.pointer (some ⟨b, 6, none⟩)] 86 :: box b [v0, v1, v2, v3, v4, v5, iv (parX s), v7, v8, v9] 57 :: L0) w') := by
 refine Ret.named fun R hR => ?_
 refine Ret.of_J (N := 20) [(0, .string s), (1, .pointer (some ⟨c0, 0, none⟩))] Tryd.func60 rfl rfl (Nat.le_of_ble_eq_true (by kernel_rfl)) (by kernel_rfl) ?_
 refine J.run 7 K60e_0 [(7, .string s), (1, .pointer (some ⟨c0, 0, none⟩))] w (by kernel_rfl) ?_
 refine J.callF 8 61 #[.string s] hb61 (by kernel_rfl) (aparse_any s _ (by omega) (tabW_sep hW S0)) ?_
 rintro _ w1 ⟨rfl, T1⟩
 have S1 : Sep w0 (box c0 [.pointer (some ⟨b, 6, none⟩)] 86 :: box b [v0, v1, v2, v3, v4, v5, v6, v7, v8, v9] 57 :: L0) w1 := S0.trans T1
 clear T1
 have := par_bounds s
 refine J.run 8 K60e_1 [(5, iv (parE s)), (4, iv (parX s)), (1, .pointer (some ⟨c0, 0, none⟩))] w1 (by kernel_rfl) ?_
 refine J.ok (OK.ldBox S1 0 11 86 0 (.pointer (some ⟨b, 6, none⟩)) (by kernel_rfl) rfl (by kernel_rfl)) ?_
 refine J.run 2 K60e_2 [(13, .pointer (some ⟨b, 6, none⟩)), (12, iv (parX s)), (5, iv (parE s)), (4, iv (parX s))] w1 (by kernel_rfl) ?_
 refine J.stBox S1 1 3 6 (iv (parX s)) [v0, v1, v2, v3, v4, v5, iv (parX s), v7, v8, v9] (box c0 [.pointer (some ⟨b, 6, none⟩)] 86 :: box b [v0, v1, v2, v3, v4, v5, iv (parX s), v7, v8, v9] 57 :: L0) (by kernel_rfl) rfl (by kernel_rfl) (by kernel_rfl) rfl ?_
 intro w2 S2
 refine J.run 6 K60e_3 [(16, .bool ((parE s) == 0)), (4, iv (parX s))] w2 (by kernel_rfl) ?_
 by_cases fk1 : (parE s) = 0
 rotate_left
 ·skip
  refine J.head (.bool false) (congrArg Value.bool (beq_eq_false_iff_ne.2 fk1)) ?_
  refine J.run 5 K60e_6 [(3, .bool false)] w2 (by kernel_rfl) ?_
  refine J.ret Tryd.f60 [.bool false] Tryd.func60 ⟨by kernel_rfl, trivial⟩ ?_
  refine hR _ _ ?_
  exact ⟨congrArg Value.bool (by rw [numOk, decide_eq_false (by omega)]; rfl), S2⟩
 refine J.head (.bool true) (congrArg Value.bool (beq_iff_eq.2 fk1)) ?_
 refine J.run 1 K60e_4 [(17, iv (parX s)), (16, .bool true)] w2 (by kernel_rfl) ?_
 refine J.callF 18 62 #[iv (parX s), iv (-1099511627776), iv 1099511627776] hb62 (by kernel_rfl) (in_any (parX s) (-1099511627776) 1099511627776 _) ?_
 rintro _ w3 ⟨rfl, T2⟩
 have S3 : Sep w0 (box c0 [.pointer (some ⟨b, 6, none⟩)] 86 :: box b [v0, v1, v2, v3, v4, v5, iv (parX s), v7, v8, v9] 57 :: L0) w3 := S2.trans T2
 clear T2 S2
 refine J.run 3 K60e_5 [(3, .bool (inB (parX s) (-1099511627776) 1099511627776))] w3 (by kernel_rfl) ?_
 refine J.ret Tryd.f60 [.bool (inB (parX s) (-1099511627776) 1099511627776)] Tryd.func60 ⟨by kernel_rfl, trivial⟩ ?_
 refine hR _ _ ?_
 exact ⟨congrArg Value.bool (by rw [numOk, decide_eq_true (by omega)]; rfl), S3⟩

def K60f_0 := adv 7 [] (bodyOf Tryd.f60)
def K60f_1 := adv 8 [] (popK K60f_0)
def K60f_2 := adv 2 [] (popK K60f_1)
def K60f_3 := adv 6 [] (popK K60f_2)
def K60f_4 := adv 1 [] K60f_3
def K60f_5 := adv 3 [] (popK K60f_4)
def K60f_6 := adv 5 [] K60f_3
set_option maxRecDepth 20000 in
set_option maxHeartbeats 20000000 in
theorem number57_7 (b c0 : Nat) (v0 v1 v2 v3 v4 v5 v6 v7 v8 v9 : Value) (s : ByteArray) (w0 : World) (L0 : List Eng.Claim) (w : World) (S0 : Sep w0 (box c0 [.pointer (some ⟨b, 7, none⟩)] 86 :: box b [v0, v1, v2, v3, v4, v5, v6, v7, v8, v9] 57 :: L0) w) (hs : s.size ≤ 1000000) (hW : TabW w0) : Ret Tryd.prog 60 #[.string s, .pointer (some ⟨c0, 0, none⟩)] w (fun v w' => v = .bool (numOk s) ∧ Sep w0 (box c0 [.pointer (some ⟨b, 7, none⟩)] 86 :: box b [v0, v1, v2, v3, v4, v5, v6, iv (parX s), v8, v9] 57 :: L0) w') := by
 refine Ret.named fun R hR => ?_
 refine Ret.of_J (N := 20) [(0, .string s), (1, .pointer (some ⟨c0, 0, none⟩))] Tryd.func60 rfl rfl (Nat.le_of_ble_eq_true (by kernel_rfl)) (by kernel_rfl) ?_
 refine J.run 7 K60f_0 [(7, .string s), (1, .pointer (some ⟨c0, 0, none⟩))] w (by kernel_rfl) ?_
 refine J.callF 8 61 #[.string s] hb61 (by kernel_rfl) (aparse_any s _ (by omega) (tabW_sep hW S0)) ?_
 rintro _ w1 ⟨rfl, T1⟩
 have S1 : Sep w0 (box c0 [.pointer (some ⟨b, 7, none⟩)] 86 :: box b [v0, v1, v2, v3, v4, v5, v6, v7, v8, v9] 57 :: L0) w1 := S0.trans T1
 clear T1
 have := par_bounds s
 refine J.run 8 K60f_1 [(5, iv (parE s)), (4, iv (parX s)), (1, .pointer (some ⟨c0, 0, none⟩))] w1 (by kernel_rfl) ?_
 refine J.ok (OK.ldBox S1 0 11 86 0 (.pointer (some ⟨b, 7, none⟩)) (by kernel_rfl) rfl (by kernel_rfl)) ?_
 refine J.run 2 K60f_2 [(13, .pointer (some ⟨b, 7, none⟩)), (12, iv (parX s)), (5, iv (parE s)), (4, iv (parX s))] w1 (by kernel_rfl) ?_
 refine J.stBox S1 1 3 7 (iv (parX s)) [v0, v1, v2, v3, v4, v5, v6, iv (parX s), v8, v9] (box c0 [.pointer (some ⟨b, 7, none⟩)] 86 :: box b [v0, v1, v2, v3, v4, v5, v6, iv (parX s), v8, v9] 57 :: L0) (by kernel_rfl) rfl (by kernel_rfl) (by kernel_rfl) rfl ?_
 intro w2 S2
 refine J.run 6 K60f_3 [(16, .bool ((parE s) == 0)), (4, iv (parX s))] w2 (by kernel_rfl) ?_
 by_cases fk1 : (parE s) = 0
 rotate_left
 ·skip
  refine J.head (.bool false) (congrArg Value.bool (beq_eq_false_iff_ne.2 fk1)) ?_
  refine J.run 5 K60f_6 [(3, .bool false)] w2 (by kernel_rfl) ?_
  refine J.ret Tryd.f60 [.bool false] Tryd.func60 ⟨by kernel_rfl, trivial⟩ ?_
  refine hR _ _ ?_
  exact ⟨congrArg Value.bool (by rw [numOk, decide_eq_false (by omega)]; rfl), S2⟩
 refine J.head (.bool true) (congrArg Value.bool (beq_iff_eq.2 fk1)) ?_
 refine J.run 1 K60f_4 [(17, iv (parX s)), (16, .bool true)] w2 (by kernel_rfl) ?_
 refine J.callF 18 62 #[iv (parX s), iv (-1099511627776), iv 1099511627776] hb62 (by kernel_rfl) (in_any (parX s) (-1099511627776) 1099511627776 _) ?_
 rintro _ w3 ⟨rfl, T2⟩
 have S3 : Sep w0 (box c0 [.pointer (some ⟨b, 7, none⟩)] 86 :: box b [v0, v1, v2, v3, v4, v5, v6, iv (parX s), v8, v9] 57 :: L0) w3 := S2.trans T2
 clear T2 S2
 refine J.run 3 K60f_5 [(3, .bool (inB (parX s) (-1099511627776) 1099511627776))] w3 (by kernel_rfl) ?_
 refine J.ret Tryd.f60 [.bool (inB (parX s) (-1099511627776) 1099511627776)] Tryd.func60 ⟨by kernel_rfl, trivial⟩ ?_
 refine hR _ _ ?_
 exact ⟨congrArg Value.bool (by rw [numOk, decide_eq_true (by omega)]; rfl), S3⟩

def K60g_0 := adv 7 [] (bodyOf Tryd.f60)
def K60g_1 := adv 8 [] (popK K60g_0)
def K60g_2 := adv 2 [] (popK K60g_1)
def K60g_3 := adv 6 [] (popK K60g_2)
def K60g_4 := adv 1 [] K60g_3
def K60g_5 := adv 3 [] (popK K60g_4)
def K60g_6 := adv 5 [] K60g_3
set_option maxRecDepth 20000 in
set_option maxHeartbeats 20000000 in
theorem number57_8 (b c0 : Nat) (v0 v1 v2 v3 v4 v5 v6 v7 v8 v9 : Value) (s : ByteArray) (w0 : World) (L0 : List Eng.Claim) (w : World) (S0 : Sep w0 (box c0 [.pointer (some ⟨b, 8, none⟩)] 86 :: box b [v0, v1, v2, v3, v4, v5, v6, v7, v8, v9] 57 :: L0) w) (hs : s.size ≤ 1000000) (hW : TabW w0) : Ret Tryd.prog 60 #[.string s, .pointer (some ⟨c0, 0, none⟩)] w (fun v w' => v = .bool (numOk s) ∧ Sep w0 (box c0 [.pointer (some ⟨b, 8, none⟩)] 86 :: box b [v0, v1, v2, v3, v4, v5, v6, v7, iv (parX s), v9] 57 :: L0) w') := by
 refine Ret.named fun R hR => ?_
 refine Ret.of_J (N := 20) [(0, .string s), (1, .pointer (some ⟨c0, 0, none⟩))] Tryd.func60 rfl rfl (Nat.le_of_ble_eq_true (by kernel_rfl)) (by kernel_rfl) ?_
 refine J.run 7 K60g_0 [(7, .string s), (1, .pointer (some ⟨c0, 0, none⟩))] w (by kernel_rfl) ?_
 refine J.callF 8 61 #[.string s] hb61 (by kernel_rfl) (aparse_any s _ (by omega) (tabW_sep hW S0)) ?_
 rintro _ w1 ⟨rfl, T1⟩
 have S1 : Sep w0 (box c0 [.pointer (some ⟨b, 8, none⟩)] 86 :: box b [v0, v1, v2, v3, v4, v5, v6, v7, v8, v9] 57 :: L0) w1 := S0.trans T1
 clear T1
 have := par_bounds s
 refine J.run 8 K60g_1 [(5, iv (parE s)), (4, iv (parX s)), (1, .pointer (some ⟨c0, 0, none⟩))] w1 (by kernel_rfl) ?_
 refine J.ok (OK.ldBox S1 0 11 86 0 (.pointer (some ⟨b, 8, none⟩)) (by kernel_rfl) rfl (by kernel_rfl)) ?_
 refine J.run 2 K60g_2 [(13, .pointer (some ⟨b, 8, none⟩)), (12, iv (parX s)), (5, iv (parE s)), (4, iv (parX s))] w1 (by kernel_rfl) ?_
 refine J.stBox S1 1 3 8 (iv (parX s)) [v0, v1, v2, v3, v4, v5, v6, v7, iv (parX s), v9] (box c0 [.pointer (some ⟨b, 8, none⟩)] 86 :: box b [v0, v1, v2, v3, v4, v5, v6, v7, iv (parX s), v9] 57 :: L0) (by kernel_rfl) rfl (by kernel_rfl) (by kernel_rfl) rfl ?_
 intro w2 S2
 refine J.run 6 K60g_3 [(16, .bool ((parE s) == 0)), (4, iv (parX s))] w2 (by kernel_rfl) ?_
 by_cases fk1 : (parE s) = 0
 rotate_left
 ·skip
  refine J.head (.bool false) (congrArg Value.bool (beq_eq_false_iff_ne.2 fk1)) ?_
  refine J.run 5 K60g_6 [(3, .bool false)] w2 (by kernel_rfl) ?_
  refine J.ret Tryd.f60 [.bool false] Tryd.func60 ⟨by kernel_rfl, trivial⟩ ?_
  refine hR _ _ ?_
  exact ⟨congrArg Value.bool (by rw [numOk, decide_eq_false (by omega)]; rfl), S2⟩
 refine J.head (.bool true) (congrArg Value.bool (beq_iff_eq.2 fk1)) ?_
 refine J.run 1 K60g_4 [(17, iv (parX s)), (16, .bool true)] w2 (by kernel_rfl) ?_
 refine J.callF 18 62 #[iv (parX s), iv (-1099511627776), iv 1099511627776] hb62 (by kernel_rfl) (in_any (parX s) (-1099511627776) 1099511627776 _) ?_
 rintro _ w3 ⟨rfl, T2⟩
 have S3 : Sep w0 (box c0 [.pointer (some ⟨b, 8, none⟩)] 86 :: box b [v0, v1, v2, v3, v4, v5, v6, v7, iv (parX s), v9] 57 :: L0) w3 := S2.trans T2
 clear T2 S2
 refine J.run 3 K60g_5 [(3, .bool (inB (parX s) (-1099511627776) 1099511627776))] w3 (by kernel_rfl) ?_
 refine J.ret Tryd.f60 [.bool (inB (parX s) (-1099511627776) 1099511627776)] Tryd.func60 ⟨by kernel_rfl, trivial⟩ ?_
 refine hR _ _ ?_
 exact ⟨congrArg Value.bool (by rw [numOk, decide_eq_true (by omega)]; rfl), S3⟩

def K60h_0 := adv 7 [] (bodyOf Tryd.f60)
def K60h_1 := adv 8 [] (popK K60h_0)
def K60h_2 := adv 2 [] (popK K60h_1)
def K60h_3 := adv 6 [] (popK K60h_2)
def K60h_4 := adv 1 [] K60h_3
def K60h_5 := adv 3 [] (popK K60h_4)
def K60h_6 := adv 5 [] K60h_3
set_option maxRecDepth 20000 in
set_option maxHeartbeats 20000000 in
theorem number57_9 (b c0 : Nat) (v0 v1 v2 v3 v4 v5 v6 v7 v8 v9 : Value) (s : ByteArray) (w0 : World) (L0 : List Eng.Claim) (w : World) (S0 : Sep w0 (box c0 [.pointer (some ⟨b, 9, none⟩)] 86 :: box b [v0, v1, v2, v3, v4, v5, v6, v7, v8, v9] 57 :: L0) w) (hs : s.size ≤ 1000000) (hW : TabW w0) : Ret Tryd.prog 60 #[.string s, .pointer (some ⟨c0, 0, none⟩)] w (fun v w' => v = .bool (numOk s) ∧ Sep w0 (box c0 [.pointer (some ⟨b, 9, none⟩)] 86 :: box b [v0, v1, v2, v3, v4, v5, v6, v7, v8, iv (parX s)] 57 :: L0) w') := by
 refine Ret.named fun R hR => ?_
 refine Ret.of_J (N := 20) [(0, .string s), (1, .pointer (some ⟨c0, 0, none⟩))] Tryd.func60 rfl rfl (Nat.le_of_ble_eq_true (by kernel_rfl)) (by kernel_rfl) ?_
 refine J.run 7 K60h_0 [(7, .string s), (1, .pointer (some ⟨c0, 0, none⟩))] w (by kernel_rfl) ?_
 refine J.callF 8 61 #[.string s] hb61 (by kernel_rfl) (aparse_any s _ (by omega) (tabW_sep hW S0)) ?_
 rintro _ w1 ⟨rfl, T1⟩
 have S1 : Sep w0 (box c0 [.pointer (some ⟨b, 9, none⟩)] 86 :: box b [v0, v1, v2, v3, v4, v5, v6, v7, v8, v9] 57 :: L0) w1 := S0.trans T1
 clear T1
 have := par_bounds s
 refine J.run 8 K60h_1 [(5, iv (parE s)), (4, iv (parX s)), (1, .pointer (some ⟨c0, 0, none⟩))] w1 (by kernel_rfl) ?_
 refine J.ok (OK.ldBox S1 0 11 86 0 (.pointer (some ⟨b, 9, none⟩)) (by kernel_rfl) rfl (by kernel_rfl)) ?_
 refine J.run 2 K60h_2 [(13, .pointer (some ⟨b, 9, none⟩)), (12, iv (parX s)), (5, iv (parE s)), (4, iv (parX s))] w1 (by kernel_rfl) ?_
 refine J.stBox S1 1 3 9 (iv (parX s)) [v0, v1, v2, v3, v4, v5, v6, v7, v8, iv (parX s)] (box c0 [.pointer (some ⟨b, 9, none⟩)] 86 :: box b [v0, v1, v2, v3, v4, v5, v6, v7, v8, iv (parX s)] 57 :: L0) (by kernel_rfl) rfl (by kernel_rfl) (by kernel_rfl) rfl ?_
 intro w2 S2
 refine J.run 6 K60h_3 [(16, .bool ((parE s) == 0)), (4, iv (parX s))] w2 (by kernel_rfl) ?_
 by_cases fk1 : (parE s) = 0
 rotate_left
 ·skip
  refine J.head (.bool false) (congrArg Value.bool (beq_eq_false_iff_ne.2 fk1)) ?_
  refine J.run 5 K60h_6 [(3, .bool false)] w2 (by kernel_rfl) ?_
  refine J.ret Tryd.f60 [.bool false] Tryd.func60 ⟨by kernel_rfl, trivial⟩ ?_
  refine hR _ _ ?_
  exact ⟨congrArg Value.bool (by rw [numOk, decide_eq_false (by omega)]; rfl), S2⟩
 refine J.head (.bool true) (congrArg Value.bool (beq_iff_eq.2 fk1)) ?_
 refine J.run 1 K60h_4 [(17, iv (parX s)), (16, .bool true)] w2 (by kernel_rfl) ?_
 refine J.callF 18 62 #[iv (parX s), iv (-1099511627776), iv 1099511627776] hb62 (by kernel_rfl) (in_any (parX s) (-1099511627776) 1099511627776 _) ?_
 rintro _ w3 ⟨rfl, T2⟩
 have S3 : Sep w0 (box c0 [.pointer (some ⟨b, 9, none⟩)] 86 :: box b [v0, v1, v2, v3, v4, v5, v6, v7, v8, iv (parX s)] 57 :: L0) w3 := S2.trans T2
 clear T2 S2
 refine J.run 3 K60h_5 [(3, .bool (inB (parX s) (-1099511627776) 1099511627776))] w3 (by kernel_rfl) ?_
 refine J.ret Tryd.f60 [.bool (inB (parX s) (-1099511627776) 1099511627776)] Tryd.func60 ⟨by kernel_rfl, trivial⟩ ?_
 refine hR _ _ ?_
 exact ⟨congrArg Value.bool (by rw [numOk, decide_eq_true (by omega)]; rfl), S3⟩

theorem hb63 : HasBody Tryd.prog 63 := fun _ _ => by kernel_rfl
def K63_0 := adv 6 [] (bodyOf Tryd.f63)
def K63_1 := adv 1 [] (popK K63_0)
def K63_2 := adv 2 [] (popK K63_1)
def K63_3 := adv 4 [] (popK K63_2)
def K63_4 := adv 2 [] (popK K63_3)
def K63_5 := adv 6 [] K63_4
def K63_6 := adv 1 [] K63_4
def K63_7 := adv 4 [] (popK K63_6)
set_option maxRecDepth 20000 in
set_option maxHeartbeats 20000000 in
theorem choice57_3 (b c0 c1 c2 : Nat) (v0 v1 v2 v3 v4 v5 v6 v7 v8 v9 : Value) (s : ByteArray) (y z : ByteArray) (w0 : World) (L0 : List Eng.Claim) (w : World) (S0 : Sep w0 (box c0 [.string y] 9 :: box c1 [.pointer (some ⟨b, 3, none⟩)] 88 :: box c2 [.string z] 9 :: box b [v0, v1, v2, v3, v4, v5, v6, v7, v8, v9] 57 :: L0) w) : Ret Tryd.prog 63 #[.string s, .pointer (some ⟨c0, 0, none⟩), .pointer (some ⟨c1, 0, none⟩), .pointer (some ⟨c2, 0, none⟩)] w (fun v w' => v = .bool (eqT s y || eqT s z) ∧ Sep w0 (box c0 [.string y] 9 :: box c1 [.pointer (some ⟨b, 3, none⟩)] 88 :: box c2 [.string z] 9 :: box b [v0, v1, v2, .bool (eqT s y), v4, v5, v6, v7, v8, v9] 57 :: L0) w') := by
 refine Ret.named fun R hR => ?_
 refine Ret.of_J (N := 19) [(0, .string s), (1, .pointer (some ⟨c0, 0, none⟩)), (2, .pointer (some ⟨c1, 0, none⟩)), (3, .pointer (some ⟨c2, 0, none⟩))] Tryd.func63 rfl rfl (Nat.le_of_ble_eq_true (by kernel_rfl)) (by kernel_rfl) ?_
 refine J.run 6 K63_0 [(0, .string s), (1, .pointer (some ⟨c0, 0, none⟩)), (2, .pointer (some ⟨c1, 0, none⟩)), (3, .pointer (some ⟨c2, 0, none⟩))] w (by kernel_rfl) ?_
 refine J.ok (OK.ldBox S0 1 6 88 0 (.pointer (some ⟨b, 3, none⟩)) (by kernel_rfl) rfl (by kernel_rfl)) ?_
 refine J.run 1 K63_1 [(7, .string s), (6, .pointer (some ⟨b, 3, none⟩)), (0, .string s), (1, .pointer (some ⟨c0, 0, none⟩)), (3, .pointer (some ⟨c2, 0, none⟩))] w (by kernel_rfl) ?_
 refine J.ok (OK.ldBox S0 0 8 9 0 (.string y) (by kernel_rfl) rfl (by kernel_rfl)) ?_
 refine J.run 2 K63_2 [(10, .pointer (some ⟨b, 3, none⟩)), (9, .bool (s.toList == y.toList)), (0, .string s), (1, .pointer (some ⟨c0, 0, none⟩)), (3, .pointer (some ⟨c2, 0, none⟩))] w (by kernel_rfl) ?_
 refine J.stBox S0 3 4 3 (.bool (s.toList == y.toList)) [v0, v1, v2, .bool (s.toList == y.toList), v4, v5, v6, v7, v8, v9] (box c0 [.string y] 9 :: box c1 [.pointer (some ⟨b, 3, none⟩)] 88 :: box c2 [.string z] 9 :: box b [v0, v1, v2, .bool (s.toList == y.toList), v4, v5, v6, v7, v8, v9] 57 :: L0) (by kernel_rfl) rfl (by kernel_rfl) (by kernel_rfl) rfl ?_
 intro w1 S1
 refine J.run 4 K63_3 [(11, .string s), (0, .string s), (1, .pointer (some ⟨c0, 0, none⟩)), (3, .pointer (some ⟨c2, 0, none⟩))] w1 (by kernel_rfl) ?_
 refine J.ok (OK.ldBox S1 0 12 9 0 (.string y) (by kernel_rfl) rfl (by kernel_rfl)) ?_
 refine J.run 2 K63_4 [(14, .bool (s.toList == y.toList)), (0, .string s), (3, .pointer (some ⟨c2, 0, none⟩))] w1 (by kernel_rfl) ?_
 rcases Bool.eq_false_or_eq_true (s.toList == y.toList) with fk1 | fk1
 ·skip
  refine J.head (.bool true) (congrArg Value.bool fk1) ?_
  refine J.run 6 K63_5 [(5, .bool true)] w1 (by kernel_rfl) ?_
  refine J.ret Tryd.f63 [.bool true] Tryd.func63 ⟨by kernel_rfl, trivial⟩ ?_
  refine hR _ _ ?_
  exact ⟨congrArg Value.bool (by simp [eqT, fk1]), S1⟩
 refine J.head (.bool false) (congrArg Value.bool fk1) ?_
 refine J.run 1 K63_6 [(15, .string s), (14, .bool false), (3, .pointer (some ⟨c2, 0, none⟩))] w1 (by kernel_rfl) ?_
 refine J.ok (OK.ldBox S1 2 16 9 0 (.string z) (by kernel_rfl) rfl (by kernel_rfl)) ?_
 refine J.run 4 K63_7 [(5, .bool (s.toList == z.toList))] w1 (by kernel_rfl) ?_
 refine J.ret Tryd.f63 [.bool (s.toList == z.toList)] Tryd.func63 ⟨by kernel_rfl, trivial⟩ ?_
 refine hR _ _ ?_
 exact ⟨congrArg Value.bool (by first | rfl | simp [eqT, fk1]), S1⟩

def K63a_0 := adv 6 [] (bodyOf Tryd.f63)
def K63a_1 := adv 1 [] (popK K63a_0)
def K63a_2 := adv 2 [] (popK K63a_1)
def K63a_3 := adv 4 [] (popK K63a_2)
def K63a_4 := adv 2 [] (popK K63a_3)
def K63a_5 := adv 6 [] K63a_4
def K63a_6 := adv 1 [] K63a_4
def K63a_7 := adv 4 [] (popK K63a_6)
set_option maxRecDepth 20000 in
set_option maxHeartbeats 20000000 in
theorem choice57_4 (b c0 c1 c2 : Nat) (v0 v1 v2 v3 v4 v5 v6 v7 v8 v9 : Value) (s : ByteArray) (y z : ByteArray) (w0 : World) (L0 : List Eng.Claim) (w : World) (S0 : Sep w0 (box c0 [.string y] 9 :: box c1 [.pointer (some ⟨b, 4, none⟩)] 88 :: box c2 [.string z] 9 :: box b [v0, v1, v2, v3, v4, v5, v6, v7, v8, v9] 57 :: L0) w) : Ret Tryd.prog 63 #[.string s, .pointer (some ⟨c0, 0, none⟩), .pointer (some ⟨c1, 0, none⟩), .pointer (some ⟨c2, 0, none⟩)] w (fun v w' => v = .bool (eqT s y || eqT s z) ∧ Sep w0 (box c0 [.string y] 9 :: box c1 [.pointer (some ⟨b, 4, none⟩)] 88 :: box c2 [.string z] 9 :: box b [v0, v1, v2, v3, .bool (eqT s y), v5, v6, v7, v8, v9] 57 :: L0) w') := by
 refine Ret.named fun R hR => ?_
 refine Ret.of_J (N := 19) [(0, .string s), (1, .pointer (some ⟨c0, 0, none⟩)), (2, .pointer (some ⟨c1, 0, none⟩)), (3, .pointer (some ⟨c2, 0, none⟩))] Tryd.func63 rfl rfl (Nat.le_of_ble_eq_true (by kernel_rfl)) (by kernel_rfl) ?_
 refine J.run 6 K63a_0 [(0, .string s), (1, .pointer (some ⟨c0, 0, none⟩)), (2, .pointer (some ⟨c1, 0, none⟩)), (3, .pointer (some ⟨c2, 0, none⟩))] w (by kernel_rfl) ?_
 refine J.ok (OK.ldBox S0 1 6 88 0 (.pointer (some ⟨b, 4, none⟩)) (by kernel_rfl) rfl (by kernel_rfl)) ?_
 refine J.run 1 K63a_1 [(7, .string s), (6, .pointer (some ⟨b, 4, none⟩)), (0, .string s), (1, .pointer (some ⟨c0, 0, none⟩)), (3, .pointer (some ⟨c2, 0, none⟩))] w (by kernel_rfl) ?_
 refine J.ok (OK.ldBox S0 0 8 9 0 (.string y) (by kernel_rfl) rfl (by kernel_rfl)) ?_
 refine J.run 2 K63a_2 [(10, .pointer (some ⟨b, 4, none⟩)), (9, .bool (s.toList == y.toList)), (0, .string s), (1, .pointer (some ⟨c0, 0, none⟩)), (3, .pointer (some ⟨c2, 0, none⟩))] w (by kernel_rfl) ?_
 refine J.stBox S0 3 4 4 (.bool (s.toList == y.toList)) [v0, v1, v2, v3, .bool (s.toList == y.toList), v5, v6, v7, v8, v9] (box c0 [.string y] 9 :: box c1 [.pointer (some ⟨b, 4, none⟩)] 88 :: box c2 [.string z] 9 :: box b [v0, v1, v2, v3, .bool (s.toList == y.toList), v5, v6, v7, v8, v9] 57 :: L0) (by kernel_rfl) rfl (by kernel_rfl) (by kernel_rfl) rfl ?_
 intro w1 S1
 refine J.run 4 K63a_3 [(11, .string s), (0, .string s), (1, .pointer (some ⟨c0, 0, none⟩)), (3, .pointer (some ⟨c2, 0, none⟩))] w1 (by kernel_rfl) ?_
 refine J.ok (OK.ldBox S1 0 12 9 0 (.string y) (by kernel_rfl) rfl (by kernel_rfl)) ?_
 refine J.run 2 K63a_4 [(14, .bool (s.toList == y.toList)), (0, .string s), (3, .pointer (some ⟨c2, 0, none⟩))] w1 (by kernel_rfl) ?_
 rcases Bool.eq_false_or_eq_true (s.toList == y.toList) with fk1 | fk1
 ·skip
  refine J.head (.bool true) (congrArg Value.bool fk1) ?_
  refine J.run 6 K63a_5 [(5, .bool true)] w1 (by kernel_rfl) ?_
  refine J.ret Tryd.f63 [.bool true] Tryd.func63 ⟨by kernel_rfl, trivial⟩ ?_
  refine hR _ _ ?_
  exact ⟨congrArg Value.bool (by simp [eqT, fk1]), S1⟩
 refine J.head (.bool false) (congrArg Value.bool fk1) ?_
 refine J.run 1 K63a_6 [(15, .string s), (14, .bool false), (3, .pointer (some ⟨c2, 0, none⟩))] w1 (by kernel_rfl) ?_
 refine J.ok (OK.ldBox S1 2 16 9 0 (.string z) (by kernel_rfl) rfl (by kernel_rfl)) ?_
 refine J.run 4 K63a_7 [(5, .bool (s.toList == z.toList))] w1 (by kernel_rfl) ?_
 refine J.ret Tryd.f63 [.bool (s.toList == z.toList)] Tryd.func63 ⟨by kernel_rfl, trivial⟩ ?_
 refine hR _ _ ?_
 exact ⟨congrArg Value.bool (by first | rfl | simp [eqT, fk1]), S1⟩

theorem hb41 : HasBody Tryd.prog 41 := fun _ _ => by kernel_rfl
def K41_0 := adv 7 [] (bodyOf Tryd.f41)
def K41_1 := adv 7 [] (popK K41_0)
set_option maxRecDepth 20000 in
set_option maxHeartbeats 20000000 in
theorem guard_any (b : Nat) (v0 v1 v2 v3 v4 : Value) (s : ByteArray) (w0 : World) (L0 : List Eng.Claim) (w : World) (S0 : Sep w0 (box b [v0, v1, v2, v3, v4] 34 :: L0) w) : Ret Tryd.prog 41 #[.string s, .pointer (some ⟨b, 0, none⟩)] w (fun v w' => v = .bool (eqT s WGd) ∧ Sep w0 (box b [v0, v1, v2, .bool true, v4] 34 :: L0) w') := by
 refine Ret.named fun R hR => ?_
 refine Ret.of_J (N := 7) [(0, .string s), (1, .pointer (some ⟨b, 0, none⟩))] Tryd.func41 rfl rfl (Nat.le_of_ble_eq_true (by kernel_rfl)) (by kernel_rfl) ?_
 refine J.run 7 K41_0 [(4, .pointer (some ⟨b, 3, none⟩)), (0, .string s)] w (by kernel_rfl) ?_
 refine J.stBox S0 0 4 3 (.bool true) [v0, v1, v2, .bool true, v4] (box b [v0, v1, v2, .bool true, v4] 34 :: L0) (by kernel_rfl) rfl (by kernel_rfl) (by kernel_rfl) rfl ?_
 intro w1 S1
 refine J.run 7 K41_1 [(3, .bool (s.toList == (⟨#[103, 117, 97, 114, 100, 101, 100]⟩ : ByteArray).toList))] w1 (by kernel_rfl) ?_
 refine J.ret Tryd.f41 [.bool (s.toList == (⟨#[103, 117, 97, 114, 100, 101, 100]⟩ : ByteArray).toList)] Tryd.func41 ⟨by kernel_rfl, trivial⟩ ?_
 refine hR _ _ ?_
 exact ⟨rfl, S1⟩

end
end Go.Proofs.YthiklimfffhbaaaDoor

