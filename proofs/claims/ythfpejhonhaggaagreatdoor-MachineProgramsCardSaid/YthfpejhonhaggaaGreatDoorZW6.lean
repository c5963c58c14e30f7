/- Walks of functions of this seat, printed by a program over the engine. Conditions: as each theorem says. -/
import Derived.Test.YthfpejhonhaggaaGreatDoorZW1
namespace Go.Proofs.YthfpejhonhaggaaGreatDoor
open Go.Eng Go.RowKit
set_option linter.unusedSimpArgs false
set_option linter.unusedVariables false
structure Ins where
  gOp : Int
  gA : Int
  gB : Int
  gC : Int
  gK : Int
def insE (x : Ins) : List Value := [iv x.gOp, iv x.gA, iv x.gB, iv x.gC, iv x.gK]
def insQ (w : World) (x : Ins) : Prop := ((-9223372036854775808) ≤ x.gOp ∧ x.gOp ≤ 9223372036854775807) ∧ ((-9223372036854775808) ≤ x.gA ∧ x.gA ≤ 9223372036854775807) ∧ ((-9223372036854775808) ≤ x.gB ∧ x.gB ≤ 9223372036854775807) ∧ ((-9223372036854775808) ≤ x.gC ∧ x.gC ≤ 9223372036854775807) ∧ ((-9223372036854775808) ≤ x.gK ∧ x.gK ≤ 9223372036854775807) ∧ True
theorem insQ_sep {w0 w : World} {L : List Eng.Claim} {x : Ins} (h : insQ w0 x) (S : Sep w0 L w) : insQ w x := by
  obtain ⟨hgOp, hgA, hgB, hgC, hgK, _⟩ := h
  exact ⟨hgOp, hgA, hgB, hgC, hgK, trivial⟩
abbrev insC (x : Ins) : List Value := [iv x.gOp, iv x.gA, iv x.gB, iv x.gC, iv x.gK]
abbrev insA (x : Ins) : Array Value := #[iv x.gOp, iv x.gA, iv x.gB, iv x.gC, iv x.gK]
structure Rwo where
  gname : ByteArray
  gfields : ByteArray
  gcost : Int
def rwoE (x : Rwo) : List Value := [.string x.gname, .string x.gfields, iv x.gcost]
abbrev rwoC (x : Rwo) : List Value := [.string x.gname, .string x.gfields, iv x.gcost]
abbrev rwoA (x : Rwo) : Array Value := #[.string x.gname, .string x.gfields, iv x.gcost]
/-! layer 13: operations, their fields, and what a well-formed instruction is -/
def fieldsF (op : Int) : ByteArray := if op ≤ 3 then ⟨#[65, 75]⟩ else if op = 4 ∨ op = 18 then ⟨#[65, 66]⟩ else if op = 9 ∨ op = 10 ∨ op = 20 ∨ op = 22 then ⟨#[65, 66, 75]⟩ else if op = 11 ∨ op = 12 ∨ op = 15 ∨ op = 16 ∨ op = 17 then ⟨#[65, 66, 67]⟩ else ⟨#[65, 66, 67, 75]⟩
def hasF (s : ByteArray) (c : Int) : Bool := (ls s).any fun x => (x.toNat : Int) == c
abbrev useC (op : Int) : Prop := 5 ≤ op ∧ op ≤ 8 ∨ 11 ≤ op ∧ op ≤ 17 ∨ op = 19 ∨ op = 21
abbrev useK (op : Int) : Prop := op ≤ 3 ∨ 5 ≤ op ∧ op ≤ 10 ∨ op = 13 ∨ op = 14 ∨ 19 ≤ op
abbrev typedP (op : Int) : Prop := 5 ≤ op ∧ op ≤ 10 ∨ op = 13 ∨ op = 14
abbrev kP (op k : Int) : Prop :=
  (op = 1 ∧ -1099511627776 ≤ k ∧ k ≤ 1099511627776) ∨ (op = 19 ∧ 0 ≤ k ∧ k ≤ 15) ∨
  (typedP op ∧ 0 ≤ k ∧ k < 2097152 ∧ (k / 128 % 128 = 0 ∨ (op ≠ 9 ∧ op ≠ 10)) ∧ (k % 128 = 0 ∨ (op ≠ 13 ∧ op ≠ 14))) ∨
  (op = 22 ∧ 0 ≤ k ∧ k ≤ 32767 ∧ k % 32 ≤ 20) ∨ (op ≠ 1 ∧ op ≠ 19 ∧ ¬ typedP op ∧ op ≠ 22 ∧ 0 ≤ k ∧ k ≤ 32767)
abbrev formP (op a b c k : Int) : Prop := (1 ≤ op ∧ op ≤ 22) ∧ (0 ≤ a ∧ a ≤ 15) ∧ (0 ≤ b ∧ b ≤ 15) ∧ (0 ≤ c ∧ c ≤ 15) ∧ (4 ≤ op ∨ b = 0) ∧ (useC op ∨ c = 0) ∧ (useK op ∨ k = 0) ∧ kP op k
def kB (op k : Int) : Bool := decide (kP op k)
def formI (op a b c k : Int) : Bool := decide (formP op a b c k)
def formB (i : Ins) : Bool := formI i.gOp i.gA i.gB i.gC i.gK
theorem kB_iff {op k : Int} : kB op k = true ↔ kP op k := by unfold kB; exact decide_eq_true_iff
theorem formI_iff {op a b c k : Int} : formI op a b c k = true ↔ formP op a b c k := by unfold formI; exact decide_eq_true_iff
theorem formB_iff {i : Ins} : formB i = true ↔ formP i.gOp i.gA i.gB i.gC i.gK := formI_iff
theorem ops_cases {op : Int} (h : 1 ≤ op ∧ op ≤ 22) : op = 1 ∨ op = 2 ∨ op = 3 ∨ op = 4 ∨ op = 5 ∨ op = 6 ∨ op = 7 ∨ op = 8 ∨ op = 9 ∨ op = 10 ∨ op = 11 ∨ op = 12 ∨ op = 13 ∨ op = 14 ∨ op = 15 ∨ op = 16 ∨ op = 17 ∨ op = 18 ∨ op = 19 ∨ op = 20 ∨ op = 21 ∨ op = 22 := by omega
theorem has_B {op : Int} (h : 1 ≤ op ∧ op ≤ 22) : hasF (fieldsF op) 66 = true ↔ 4 ≤ op := by
  rcases ops_cases h with rfl | rfl | rfl | rfl | rfl | rfl | rfl | rfl | rfl | rfl | rfl | rfl | rfl | rfl | rfl | rfl | rfl | rfl | rfl | rfl | rfl | rfl <;> decide
theorem has_C {op : Int} (h : 1 ≤ op ∧ op ≤ 22) : hasF (fieldsF op) 67 = true ↔ useC op := by
  rcases ops_cases h with rfl | rfl | rfl | rfl | rfl | rfl | rfl | rfl | rfl | rfl | rfl | rfl | rfl | rfl | rfl | rfl | rfl | rfl | rfl | rfl | rfl | rfl <;> decide
theorem has_K {op : Int} (h : 1 ≤ op ∧ op ≤ 22) : hasF (fieldsF op) 75 = true ↔ useK op := by
  rcases ops_cases h with rfl | rfl | rfl | rfl | rfl | rfl | rfl | rfl | rfl | rfl | rfl | rfl | rfl | rfl | rfl | rfl | rfl | rfl | rfl | rfl | rfl | rfl <;> decide
theorem fields_size {op : Int} : 2 ≤ (fieldsF op).size ∧ (fieldsF op).size ≤ 4 := by
  unfold fieldsF; repeat' split
  all_goals exact ⟨by decide, by decide⟩

def nameL : List ByteArray := [ByteArray.empty, ⟨#[99, 111, 110, 115, 116]⟩, ⟨#[108, 111, 97, 100]⟩, ⟨#[115, 116, 111, 114, 101]⟩, ⟨#[109, 111, 118, 101]⟩, ⟨#[97, 100, 100]⟩, ⟨#[115, 117, 98]⟩, ⟨#[109, 117, 108]⟩, ⟨#[100, 105, 118]⟩, ⟨#[110, 101, 103]⟩, ⟨#[99, 111, 110, 118, 101, 114, 116]⟩, ⟨#[109, 105, 110]⟩, ⟨#[109, 97, 120]⟩, ⟨#[108, 101, 115, 115]⟩, ⟨#[101, 113, 117, 97, 108]⟩, ⟨#[98, 101, 108, 111, 119]⟩, ⟨#[97, 110, 100]⟩, ⟨#[111, 114]⟩, ⟨#[110, 111, 116]⟩, ⟨#[115, 101, 108, 101, 99, 116]⟩, ⟨#[99, 117, 114, 118, 101]⟩, ⟨#[109, 97, 112]⟩, ⟨#[108, 97, 103]⟩]
abbrev rwo0 : Rwo := ⟨ByteArray.empty, ByteArray.empty, 0⟩
def rowsL : List Rwo := [⟨ByteArray.empty, ByteArray.empty, 0⟩, ⟨⟨#[99, 111, 110, 115, 116]⟩, ⟨#[65, 75]⟩, 1⟩, ⟨⟨#[108, 111, 97, 100]⟩, ⟨#[65, 75]⟩, 2⟩, ⟨⟨#[115, 116, 111, 114, 101]⟩, ⟨#[65, 75]⟩, 2⟩, ⟨⟨#[109, 111, 118, 101]⟩, ⟨#[65, 66]⟩, 1⟩, ⟨⟨#[97, 100, 100]⟩, ⟨#[65, 66, 67, 75]⟩, 3⟩, ⟨⟨#[115, 117, 98]⟩, ⟨#[65, 66, 67, 75]⟩, 3⟩, ⟨⟨#[109, 117, 108]⟩, ⟨#[65, 66, 67, 75]⟩, 4⟩, ⟨⟨#[100, 105, 118]⟩, ⟨#[65, 66, 67, 75]⟩, 12⟩, ⟨⟨#[110, 101, 103]⟩, ⟨#[65, 66, 75]⟩, 3⟩, ⟨⟨#[99, 111, 110, 118, 101, 114, 116]⟩, ⟨#[65, 66, 75]⟩, 4⟩, ⟨⟨#[109, 105, 110]⟩, ⟨#[65, 66, 67]⟩, 1⟩, ⟨⟨#[109, 97, 120]⟩, ⟨#[65, 66, 67]⟩, 1⟩, ⟨⟨#[108, 101, 115, 115]⟩, ⟨#[65, 66, 67, 75]⟩, 3⟩, ⟨⟨#[101, 113, 117, 97, 108]⟩, ⟨#[65, 66, 67, 75]⟩, 4⟩, ⟨⟨#[98, 101, 108, 111, 119]⟩, ⟨#[65, 66, 67]⟩, 1⟩, ⟨⟨#[97, 110, 100]⟩, ⟨#[65, 66, 67]⟩, 1⟩, ⟨⟨#[111, 114]⟩, ⟨#[65, 66, 67]⟩, 1⟩, ⟨⟨#[110, 111, 116]⟩, ⟨#[65, 66]⟩, 1⟩, ⟨⟨#[115, 101, 108, 101, 99, 116]⟩, ⟨#[65, 66, 67, 75]⟩, 2⟩, ⟨⟨#[99, 117, 114, 118, 101]⟩, ⟨#[65, 66, 75]⟩, 20⟩, ⟨⟨#[109, 97, 112]⟩, ⟨#[65, 66, 67, 75]⟩, 40⟩, ⟨⟨#[108, 97, 103]⟩, ⟨#[65, 66, 75]⟩, 8⟩]
def costL : List Int := [0, 1, 2, 2, 1, 3, 3, 4, 12, 3, 4, 1, 1, 3, 4, 1, 1, 1, 1, 2, 20, 40, 8]
theorem rows_at {op : Int} (h : 1 ≤ op ∧ op ≤ 22) : (rowsL.getD op.toNat rwo0).gname = nameL.getD op.toNat ByteArray.empty ∧ (rowsL.getD op.toNat rwo0).gfields = fieldsF op ∧ (rowsL.getD op.toNat rwo0).gcost = costL.getD op.toNat 0 := by
  rcases ops_cases h with rfl | rfl | rfl | rfl | rfl | rfl | rfl | rfl | rfl | rfl | rfl | rfl | rfl | rfl | rfl | rfl | rfl | rfl | rfl | rfl | rfl | rfl <;> exact ⟨rfl, rfl, rfl⟩
theorem cost_bd {op : Int} (h : 1 ≤ op ∧ op ≤ 22) : 1 ≤ costL.getD op.toNat 0 ∧ costL.getD op.toNat 0 ≤ 40 := by
  rcases ops_cases h with rfl | rfl | rfl | rfl | rfl | rfl | rfl | rfl | rfl | rfl | rfl | rfl | rfl | rfl | rfl | rfl | rfl | rfl | rfl | rfl | rfl | rfl <;> decide
theorem rows_len : rowsL.length = 23 := rfl
theorem name_size {op : Int} (h : 1 ≤ op ∧ op ≤ 22) : (nameL.getD op.toNat ByteArray.empty).size ≤ 7 := by
  rcases ops_cases h with rfl | rfl | rfl | rfl | rfl | rfl | rfl | rfl | rfl | rfl | rfl | rfl | rfl | rfl | rfl | rfl | rfl | rfl | rfl | rfl | rfl | rfl <;> decide

theorem hb77 : HasBody Tryz.prog 77 := fun _ _ => by kernel_rfl
def idxB (s : ByteArray) (c : Int) : Int := Lib.indexByte s.data.toList c.toNat.toUInt8
theorem indexbyte_any (s : ByteArray) (c : Int) (w : World) : Ret Tryz.prog 77 #[.string s, .int .u8 c] w (fun v w' => v = iv (idxB s c) ∧ Sep w [] w') :=
  Ret.of_calls (Tryz.strings_IndexByte s c w) fun w' hw => ⟨rfl, by subst hw; exact .refl _⟩
theorem hb78 : HasBody Tryz.prog 78 := fun _ _ => by kernel_rfl
def sufB (s p : ByteArray) : Bool := Lib.hasSuffix s.data.toList p.data.toList
theorem hassuffix_any (s p : ByteArray) (w : World) (hs : s.size ≤ 9223372036854775807) : Ret Tryz.prog 78 #[.string s, .string p] w (fun v w' => v = .bool (sufB s p) ∧ Sep w [] w') :=
  Ret.of_calls (Tryz.strings_HasSuffix s p w hs) fun w' hw => ⟨rfl, by subst hw; exact .refl _⟩
theorem hb48 : HasBody Tryz.prog 48 := fun _ _ => by kernel_rfl
theorem trimprefix_any (s p : ByteArray) (w : World) : Ret Tryz.prog 48 #[.string s, .string p] w (fun v w' => v = .string ⟨(Lib.trimPrefix s.data.toList p.data.toList).toArray⟩ ∧ Sep w [] w') :=
  Ret.of_calls (Tryz.strings_TrimPrefix s p w) fun w' hw => ⟨rfl, by subst hw; exact .refl _⟩
theorem idx_A {op : Int} (h : 1 ≤ op ∧ op ≤ 22) : idxB (rowsL.getD op.toNat rwo0).gfields 65 < 0 ↔ ¬ (1 ≤ op) := by
  rcases ops_cases h with rfl | rfl | rfl | rfl | rfl | rfl | rfl | rfl | rfl | rfl | rfl | rfl | rfl | rfl | rfl | rfl | rfl | rfl | rfl | rfl | rfl | rfl <;> decide
theorem idx_B {op : Int} (h : 1 ≤ op ∧ op ≤ 22) : idxB (rowsL.getD op.toNat rwo0).gfields 66 < 0 ↔ ¬ (4 ≤ op) := by
  rcases ops_cases h with rfl | rfl | rfl | rfl | rfl | rfl | rfl | rfl | rfl | rfl | rfl | rfl | rfl | rfl | rfl | rfl | rfl | rfl | rfl | rfl | rfl | rfl <;> decide
theorem idx_C {op : Int} (h : 1 ≤ op ∧ op ≤ 22) : idxB (rowsL.getD op.toNat rwo0).gfields 67 < 0 ↔ ¬ (useC op) := by
  rcases ops_cases h with rfl | rfl | rfl | rfl | rfl | rfl | rfl | rfl | rfl | rfl | rfl | rfl | rfl | rfl | rfl | rfl | rfl | rfl | rfl | rfl | rfl | rfl <;> decide
theorem suf_K {op : Int} (h : 1 ≤ op ∧ op ≤ 22) : sufB (rowsL.getD op.toNat rwo0).gfields ⟨#[75]⟩ = true ↔ useK op := by
  rcases ops_cases h with rfl | rfl | rfl | rfl | rfl | rfl | rfl | rfl | rfl | rfl | rfl | rfl | rfl | rfl | rfl | rfl | rfl | rfl | rfl | rfl | rfl | rfl <;> decide
theorem rows_size {op : Int} (h : 1 ≤ op ∧ op ≤ 22) : (rowsL.getD op.toNat rwo0).gname.size ≤ 7 ∧ 2 ≤ (rowsL.getD op.toNat rwo0).gfields.size ∧ (rowsL.getD op.toNat rwo0).gfields.size ≤ 4 := by
  rcases ops_cases h with rfl | rfl | rfl | rfl | rfl | rfl | rfl | rfl | rfl | rfl | rfl | rfl | rfl | rfl | rfl | rfl | rfl | rfl | rfl | rfl | rfl | rfl <;> decide
def fldF (i : Ins) (c : Int) : Int := if c = 65 then i.gA else if c = 66 then i.gB else if c = 67 then i.gC else i.gK
theorem hb42 : HasBody Tryz.prog 42 := fun _ _ => by kernel_rfl
noncomputable def K42_0 : List Item := adv 29 [] (bodyOf Tryz.f42)
noncomputable def K42_1 : List Item := adv 2 [] (popK K42_0)
set_option maxRecDepth 20000 in
set_option maxHeartbeats 20000000 in
theorem rows_any  (w : World) : Ret Tryz.prog 42 #[] w (fun v w' => ∃ b, v = .slice (some ⟨b, 0, none⟩) 23 23 ∧ Sep w [box b (rowsL.flatMap rwoE) 74] w') := by
 have S0 := Sep.refl w
 refine Ret.named fun R hR => ?_
 refine Ret.of_J (N := 25) [] Tryz.func42 rfl rfl (Nat.le_of_ble_eq_true (by kernel_rfl)) (by kernel_rfl) ?_
 refine J.run 29 K42_0 [(23, .agg #[.string ⟨#[108, 97, 103]⟩, .string ⟨#[65, 66, 75]⟩, iv 8]), (22, .agg #[.string ⟨#[109, 97, 112]⟩, .string ⟨#[65, 66, 67, 75]⟩, iv 40]), (21, .agg #[.string ⟨#[99, 117, 114, 118, 101]⟩, .string ⟨#[65, 66, 75]⟩, iv 20]), (20, .agg #[.string ⟨#[115, 101, 108, 101, 99, 116]⟩, .string ⟨#[65, 66, 67, 75]⟩, iv 2]), (19, .agg #[.string ⟨#[110, 111, 116]⟩, .string ⟨#[65, 66]⟩, iv 1]), (18, .agg #[.string ⟨#[111, 114]⟩, .string ⟨#[65, 66, 67]⟩, iv 1]), (17, .agg #[.string ⟨#[97, 110, 100]⟩, .string ⟨#[65, 66, 67]⟩, iv 1]), (16, .agg #[.string ⟨#[98, 101, 108, 111, 119]⟩, .string ⟨#[65, 66, 67]⟩, iv 1]), (15, .agg #[.string ⟨#[101, 113, 117, 97, 108]⟩, .string ⟨#[65, 66, 67, 75]⟩, iv 4]), (14, .agg #[.string ⟨#[108, 101, 115, 115]⟩, .string ⟨#[65, 66, 67, 75]⟩, iv 3]), (13, .agg #[.string ⟨#[109, 97, 120]⟩, .string ⟨#[65, 66, 67]⟩, iv 1]), (12, .agg #[.string ⟨#[109, 105, 110]⟩, .string ⟨#[65, 66, 67]⟩, iv 1]), (11, .agg #[.string ⟨#[99, 111, 110, 118, 101, 114, 116]⟩, .string ⟨#[65, 66, 75]⟩, iv 4]), (10, .agg #[.string ⟨#[110, 101, 103]⟩, .string ⟨#[65, 66, 75]⟩, iv 3]), (9, .agg #[.string ⟨#[100, 105, 118]⟩, .string ⟨#[65, 66, 67, 75]⟩, iv 12]), (8, .agg #[.string ⟨#[109, 117, 108]⟩, .string ⟨#[65, 66, 67, 75]⟩, iv 4]), (7, .agg #[.string ⟨#[115, 117, 98]⟩, .string ⟨#[65, 66, 67, 75]⟩, iv 3]), (6, .agg #[.string ⟨#[97, 100, 100]⟩, .string ⟨#[65, 66, 67, 75]⟩, iv 3]), (5, .agg #[.string ⟨#[109, 111, 118, 101]⟩, .string ⟨#[65, 66]⟩, iv 1]), (4, .agg #[.string ⟨#[115, 116, 111, 114, 101]⟩, .string ⟨#[65, 75]⟩, iv 2]), (3, .agg #[.string ⟨#[108, 111, 97, 100]⟩, .string ⟨#[65, 75]⟩, iv 2]), (2, .agg #[.string ⟨#[99, 111, 110, 115, 116]⟩, .string ⟨#[65, 75]⟩, iv 1]), (1, .agg #[.string ByteArray.empty, .string ByteArray.empty, iv 0])] w (by kernel_rfl) ?_
 refine J.newSlice S0 24 23 [.string ByteArray.empty, .string ByteArray.empty, iv 0, .string ⟨#[99, 111, 110, 115, 116]⟩, .string ⟨#[65, 75]⟩, iv 1, .string ⟨#[108, 111, 97, 100]⟩, .string ⟨#[65, 75]⟩, iv 2, .string ⟨#[115, 116, 111, 114, 101]⟩, .string ⟨#[65, 75]⟩, iv 2, .string ⟨#[109, 111, 118, 101]⟩, .string ⟨#[65, 66]⟩, iv 1, .string ⟨#[97, 100, 100]⟩, .string ⟨#[65, 66, 67, 75]⟩, iv 3, .string ⟨#[115, 117, 98]⟩, .string ⟨#[65, 66, 67, 75]⟩, iv 3, .string ⟨#[109, 117, 108]⟩, .string ⟨#[65, 66, 67, 75]⟩, iv 4, .string ⟨#[100, 105, 118]⟩, .string ⟨#[65, 66, 67, 75]⟩, iv 12, .string ⟨#[110, 101, 103]⟩, .string ⟨#[65, 66, 75]⟩, iv 3, .string ⟨#[99, 111, 110, 118, 101, 114, 116]⟩, .string ⟨#[65, 66, 75]⟩, iv 4, .string ⟨#[109, 105, 110]⟩, .string ⟨#[65, 66, 67]⟩, iv 1, .string ⟨#[109, 97, 120]⟩, .string ⟨#[65, 66, 67]⟩, iv 1, .string ⟨#[108, 101, 115, 115]⟩, .string ⟨#[65, 66, 67, 75]⟩, iv 3, .string ⟨#[101, 113, 117, 97, 108]⟩, .string ⟨#[65, 66, 67, 75]⟩, iv 4, .string ⟨#[98, 101, 108, 111, 119]⟩, .string ⟨#[65, 66, 67]⟩, iv 1, .string ⟨#[97, 110, 100]⟩, .string ⟨#[65, 66, 67]⟩, iv 1, .string ⟨#[111, 114]⟩, .string ⟨#[65, 66, 67]⟩, iv 1, .string ⟨#[110, 111, 116]⟩, .string ⟨#[65, 66]⟩, iv 1, .string ⟨#[115, 101, 108, 101, 99, 116]⟩, .string ⟨#[65, 66, 67, 75]⟩, iv 2, .string ⟨#[99, 117, 114, 118, 101]⟩, .string ⟨#[65, 66, 75]⟩, iv 20, .string ⟨#[109, 97, 112]⟩, .string ⟨#[65, 66, 67, 75]⟩, iv 40, .string ⟨#[108, 97, 103]⟩, .string ⟨#[65, 66, 75]⟩, iv 8] 74 (by kernel_rfl) ?_
 intro b1 w1 S1
 refine J.run 2 K42_1 [(0, .slice (some ⟨b1, 0, none⟩) 23 23)] w1 (by kernel_rfl) ?_
 refine J.ret Tryz.f42 [.slice (some ⟨b1, 0, none⟩) 23 23] Tryz.func42 ⟨by kernel_rfl, trivial⟩ ?_
 refine hR _ _ ?_
 exact ⟨_, rfl, S1⟩

theorem hb76 : HasBody Tryz.prog 76 := fun _ _ => by kernel_rfl
noncomputable def K76_0 : List Item := adv 9 [] (bodyOf Tryz.f76)
noncomputable def K76_1 : List Item := adv 5 [] K76_0
noncomputable def K76_2 : List Item := adv 5 [] K76_0
set_option maxRecDepth 20000 in
set_option maxHeartbeats 20000000 in
theorem known_any (op : Int) (w : World) : Ret Tryz.prog 76 #[iv op] w (fun v w' => v = .bool (decide (1 ≤ op ∧ op ≤ 22)) ∧ Sep w [] w') := by
 have S0 := Sep.refl w
 refine Ret.named fun R hR => ?_
 refine Ret.of_J (N := 9) [(0, iv op)] Tryz.func76 rfl rfl (Nat.le_of_ble_eq_true (by kernel_rfl)) (by kernel_rfl) ?_
 refine J.run 9 K76_0 [(5, .bool (decide (op ≥ 1))), (0, iv op)] w (by kernel_rfl) ?_
 by_cases fk1 : op ≥ 1
 ·skip
  refine J.head (.bool true) (congrArg Value.bool (decide_eq_true fk1)) ?_
  refine J.run 5 K76_1 [(2, .bool (decide (op ≤ 22)))] w (by kernel_rfl) ?_
  refine J.ret Tryz.f76 [.bool (decide (op ≤ 22))] Tryz.func76 ⟨by kernel_rfl, trivial⟩ ?_
  refine hR _ _ ?_
  exact ⟨congrArg Value.bool (by show (decide (op ≤ 22)) = decide (1 ≤ op ∧ op ≤ 22); by_cases hz_ : op ≤ 22; (rw [(decide_eq_true hz_)]; first | exact (decide_eq_true (by omega)).symm | exact (decide_eq_false (by omega)).symm); (rw [(decide_eq_false hz_)]; first | exact (decide_eq_false (by omega)).symm | exact (decide_eq_true (by omega)).symm)), S0.nil⟩
 ·skip
  refine J.head (.bool false) (congrArg Value.bool (decide_eq_false fk1)) ?_
  refine J.run 5 K76_2 [(2, .bool false)] w (by kernel_rfl) ?_
  refine J.ret Tryz.f76 [.bool false] Tryz.func76 ⟨by kernel_rfl, trivial⟩ ?_
  refine hR _ _ ?_
  exact ⟨congrArg Value.bool (decide_eq_false (show ¬ (1 ≤ op ∧ op ≤ 22) by omega)).symm, S0.nil⟩

theorem hb71 : HasBody Tryz.prog 71 := fun _ _ => by kernel_rfl
noncomputable def K71_0 : List Item := adv 9 [] (bodyOf Tryz.f71)
noncomputable def K71_1 : List Item := adv 4 [] K71_0
noncomputable def K71_2 : List Item := adv 9 [] K71_1
noncomputable def K71_3 : List Item := adv 4 [] K71_1
noncomputable def K71_4 : List Item := adv 5 [] K71_3
noncomputable def K71_5 : List Item := adv 5 [] K71_3
noncomputable def K71_6 : List Item := adv 8 [] K71_0
noncomputable def K71_7 : List Item := adv 5 [] K71_6
noncomputable def K71_8 : List Item := adv 5 [] K71_6
set_option maxRecDepth 20000 in
set_option maxHeartbeats 20000000 in
theorem typed_any (op : Int) (w : World) : Ret Tryz.prog 71 #[iv op] w (fun v w' => v = .bool (decide (typedP op)) ∧ Sep w [] w') := by
 have S0 := Sep.refl w
 refine Ret.named fun R hR => ?_
 refine Ret.of_J (N := 17) [(0, iv op)] Tryz.func71 rfl rfl (Nat.le_of_ble_eq_true (by kernel_rfl)) (by kernel_rfl) ?_
 refine J.run 9 K71_0 [(5, .bool (decide (op ≥ 5))), (0, iv op)] w (by kernel_rfl) ?_
 by_cases fk1 : op ≥ 5
 ·skip
  refine J.head (.bool true) (congrArg Value.bool (decide_eq_true fk1)) ?_
  refine J.run 4 K71_1 [(9, .bool (decide (op ≤ 10))), (0, iv op)] w (by kernel_rfl) ?_
  by_cases fk2 : op ≤ 10
  ·skip
   refine J.head (.bool true) (congrArg Value.bool (decide_eq_true fk2)) ?_
   refine J.run 9 K71_2 [(2, .bool true)] w (by kernel_rfl) ?_
   refine J.ret Tryz.f71 [.bool true] Tryz.func71 ⟨by kernel_rfl, trivial⟩ ?_
   refine hR _ _ ?_
   exact ⟨congrArg Value.bool (decide_eq_true (show typedP op by omega)).symm, S0.nil⟩
  ·skip
   refine J.head (.bool false) (congrArg Value.bool (decide_eq_false fk2)) ?_
   refine J.run 4 K71_3 [(13, .bool (op == 13)), (0, iv op)] w (by kernel_rfl) ?_
   by_cases fk3 : op = 13
   ·skip
    refine J.head (.bool true) (congrArg Value.bool (beq_iff_eq.2 fk3)) ?_
    refine J.run 5 K71_4 [(2, .bool true)] w (by kernel_rfl) ?_
    refine J.ret Tryz.f71 [.bool true] Tryz.func71 ⟨by kernel_rfl, trivial⟩ ?_
    refine hR _ _ ?_
    exact ⟨congrArg Value.bool (decide_eq_true (show typedP op by omega)).symm, S0.nil⟩
   ·skip
    refine J.head (.bool false) (congrArg Value.bool (beq_eq_false_iff_ne.2 fk3)) ?_
    refine J.run 5 K71_5 [(2, .bool (op == 14))] w (by kernel_rfl) ?_
    refine J.ret Tryz.f71 [.bool (op == 14)] Tryz.func71 ⟨by kernel_rfl, trivial⟩ ?_
    refine hR _ _ ?_
    exact ⟨congrArg Value.bool (by show (op == 14) = decide (typedP op); by_cases hz_ : op = 14; (rw [(beq_iff_eq.2 hz_)]; first | exact (decide_eq_true (by omega)).symm | exact (decide_eq_false (by omega)).symm); (rw [(beq_eq_false_iff_ne.2 hz_)]; first | exact (decide_eq_false (by omega)).symm | exact (decide_eq_true (by omega)).symm)), S0.nil⟩
 ·skip
  refine J.head (.bool false) (congrArg Value.bool (decide_eq_false fk1)) ?_
  refine J.run 8 K71_6 [(13, .bool (op == 13)), (0, iv op)] w (by kernel_rfl) ?_
  by_cases fk4 : op = 13
  ·skip
   refine J.head (.bool true) (congrArg Value.bool (beq_iff_eq.2 fk4)) ?_
   refine J.run 5 K71_7 [(2, .bool true)] w (by kernel_rfl) ?_
   refine J.ret Tryz.f71 [.bool true] Tryz.func71 ⟨by kernel_rfl, trivial⟩ ?_
   refine hR _ _ ?_
   exact ⟨congrArg Value.bool (decide_eq_true (show typedP op by omega)).symm, S0.nil⟩
  ·skip
   refine J.head (.bool false) (congrArg Value.bool (beq_eq_false_iff_ne.2 fk4)) ?_
   refine J.run 5 K71_8 [(2, .bool (op == 14))] w (by kernel_rfl) ?_
   refine J.ret Tryz.f71 [.bool (op == 14)] Tryz.func71 ⟨by kernel_rfl, trivial⟩ ?_
   refine hR _ _ ?_
   exact ⟨congrArg Value.bool (by show (op == 14) = decide (typedP op); by_cases hz_ : op = 14; (rw [(beq_iff_eq.2 hz_)]; first | exact (decide_eq_true (by omega)).symm | exact (decide_eq_false (by omega)).symm); (rw [(beq_eq_false_iff_ne.2 hz_)]; first | exact (decide_eq_false (by omega)).symm | exact (decide_eq_true (by omega)).symm)), S0.nil⟩

theorem hb88 : HasBody Tryz.prog 88 := fun _ _ => by kernel_rfl
noncomputable def K88_0 : List Item := adv 10 [] (bodyOf Tryz.f88)
noncomputable def K88_1 : List Item := adv 2 [] K88_0
noncomputable def K88_2 : List Item := adv 1 [] K88_1
noncomputable def K88_3 : List Item := adv 2 [] K88_2
noncomputable def K88_4 : List Item := adv 4 [] K88_3
set_option maxRecDepth 20000 in
set_option maxHeartbeats 20000000 in
theorem split3_any (k : Int) (w : World) (hk : -9223372036854775808 ≤ k ∧ k ≤ 9223372036854775807) : Ret Tryz.prog 88 #[iv k] w (fun v w' => v = .tuple #[iv (k / 16384), iv (k / 128 % 128), iv (k % 128)] ∧ Sep w [] w') := by
 have S0 := Sep.refl w
 refine Ret.named fun R hR => ?_
 refine Ret.of_J (N := 12) [(0, iv k)] Tryz.func88 rfl rfl (Nat.le_of_ble_eq_true (by kernel_rfl)) (by kernel_rfl) ?_
 refine J.run 10 K88_0 [(6, iv (Int.fdiv k (2 ^ 14))), (0, iv k)] w (by kernel_rfl) ?_
 refine J.head (iv (k / 16384)) (congrArg (Value.int .i64) (shr_lit _ _ (by decide))) ?_
 refine J.run 2 K88_1 [(8, iv (Int.fdiv k (2 ^ 7))), (6, iv (k / 16384)), (0, iv k)] w (by kernel_rfl) ?_
 refine J.head (iv (k / 128)) (congrArg (Value.int .i64) (shr_lit _ _ (by decide))) ?_
 refine J.run 1 K88_2 [(9, iv (IntKind.wrap .i64 ((BitVec.ofInt 64 (k / 128) &&& (BitVec.ofInt 64 (127 : Int))).toNat : Int))), (6, iv (k / 16384)), (0, iv k)] w (by kernel_rfl) ?_
 refine J.head (iv ((k / 128) % 128)) (congrArg (Value.int .i64) (and_mask_i64 7 _ _ (by rfl) (by decide))) ?_
 refine J.run 2 K88_3 [(11, iv (IntKind.wrap .i64 ((BitVec.ofInt 64 k &&& (BitVec.ofInt 64 (127 : Int))).toNat : Int))), (9, iv ((k / 128) % 128)), (6, iv (k / 16384))] w (by kernel_rfl) ?_
 refine J.head (iv (k % 128)) (congrArg (Value.int .i64) (and_mask_i64 7 _ _ (by rfl) (by decide))) ?_
 refine J.run 4 K88_4 [(4, iv (k % 128)), (3, iv ((k / 128) % 128)), (2, iv (k / 16384))] w (by kernel_rfl) ?_
 refine J.ret Tryz.f88 [iv (k / 16384), iv ((k / 128) % 128), iv (k % 128)] Tryz.func88 ⟨by kernel_rfl, by kernel_rfl, by kernel_rfl, trivial⟩ ?_
 refine hR _ _ ?_
 exact ⟨rfl, S0.nil⟩

theorem hb51 : HasBody Tryz.prog 51 := fun _ _ => by kernel_rfl
noncomputable def K51_0 : List Item := adv 2 [] (bodyOf Tryz.f51)
noncomputable def K51_1 : List Item := adv 13 [] (popK K51_0)
noncomputable def K51_2 : List Item := adv 4 [true] K51_1
noncomputable def K51_3 : List Item := adv 2 [] (popK K51_2)
noncomputable def K51_4 : List Item := adv 6 [false] K51_1
noncomputable def K51_5 : List Item := adv 4 [true] K51_4
noncomputable def K51_6 : List Item := adv 2 [] (popK K51_5)
noncomputable def K51_7 : List Item := adv 6 [false] K51_4
noncomputable def K51_8 : List Item := adv 4 [true] K51_7
noncomputable def K51_9 : List Item := adv 2 [] (popK K51_8)
noncomputable def K51_10 : List Item := adv 6 [false] K51_7
noncomputable def K51_11 : List Item := adv 2 [] (popK K51_10)
set_option maxRecDepth 20000 in
set_option maxHeartbeats 20000000 in
theorem field_any (i : Ins) (c : Int) (w : World) : Ret Tryz.prog 51 #[.agg (insA i), .int .u8 c] w (fun v w' => v = iv (fldF i c) ∧ Sep w [] w') := by
 have S0 := Sep.refl w
 refine Ret.named fun R hR => ?_
 refine Ret.of_J (N := 20) [(0, .agg (insA i)), (1, .int .u8 c)] Tryz.func51 rfl rfl (Nat.le_of_ble_eq_true (by kernel_rfl)) (by kernel_rfl) ?_
 refine J.run 2 K51_0 [(0, .agg (insA i)), (1, .int .u8 c)] w (by kernel_rfl) ?_
 refine J.new S0 2 (insC i) 44 (by kernel_rfl) ?_
 intro b1 w1 S1
 refine J.run 13 K51_1 [(6, .bool (c == 65)), (5, .int .u8 c), (2, pv b1)] w1 (by kernel_rfl) ?_
 by_cases fk1 : c = 65
 ·skip
  refine J.head (.bool true) (congrArg Value.bool (beq_iff_eq.2 fk1)) ?_
  refine J.run 4 K51_2 [(8, .pointer (some ⟨b1, 1, none⟩))] w1 (by kernel_rfl) ?_
  refine J.ok (OK.ldBox S1 0 9 3 1 (iv i.gA) (by kernel_rfl) rfl (by kernel_rfl)) ?_
  refine J.run 2 K51_3 [(4, iv i.gA)] w1 (by kernel_rfl) ?_
  refine J.ret Tryz.f51 [iv i.gA] Tryz.func51 ⟨by kernel_rfl, trivial⟩ ?_
  refine hR _ _ ?_
  exact ⟨congrArg (Value.int .i64) (by unfold fldF; (repeat first | rw [if_pos (by omega)] | rw [if_neg (by omega)]) <;> rfl), S1.nil⟩
 ·skip
  refine J.head (.bool false) (congrArg Value.bool (beq_eq_false_iff_ne.2 fk1)) ?_
  refine J.run 6 K51_4 [(10, .bool (c == 66)), (5, .int .u8 c), (2, pv b1)] w1 (by kernel_rfl) ?_
  by_cases fk2 : c = 66
  ·skip
   refine J.head (.bool true) (congrArg Value.bool (beq_iff_eq.2 fk2)) ?_
   refine J.run 4 K51_5 [(12, .pointer (some ⟨b1, 2, none⟩))] w1 (by kernel_rfl) ?_
   refine J.ok (OK.ldBox S1 0 13 3 2 (iv i.gB) (by kernel_rfl) rfl (by kernel_rfl)) ?_
   refine J.run 2 K51_6 [(4, iv i.gB)] w1 (by kernel_rfl) ?_
   refine J.ret Tryz.f51 [iv i.gB] Tryz.func51 ⟨by kernel_rfl, trivial⟩ ?_
   refine hR _ _ ?_
   exact ⟨congrArg (Value.int .i64) (by unfold fldF; (repeat first | rw [if_pos (by omega)] | rw [if_neg (by omega)]) <;> rfl), S1.nil⟩
  ·skip
   refine J.head (.bool false) (congrArg Value.bool (beq_eq_false_iff_ne.2 fk2)) ?_
   refine J.run 6 K51_7 [(14, .bool (c == 67)), (2, pv b1)] w1 (by kernel_rfl) ?_
   by_cases fk3 : c = 67
   ·skip
    refine J.head (.bool true) (congrArg Value.bool (beq_iff_eq.2 fk3)) ?_
    refine J.run 4 K51_8 [(16, .pointer (some ⟨b1, 3, none⟩))] w1 (by kernel_rfl) ?_
    refine J.ok (OK.ldBox S1 0 17 3 3 (iv i.gC) (by kernel_rfl) rfl (by kernel_rfl)) ?_
    refine J.run 2 K51_9 [(4, iv i.gC)] w1 (by kernel_rfl) ?_
    refine J.ret Tryz.f51 [iv i.gC] Tryz.func51 ⟨by kernel_rfl, trivial⟩ ?_
    refine hR _ _ ?_
    exact ⟨congrArg (Value.int .i64) (by unfold fldF; (repeat first | rw [if_pos (by omega)] | rw [if_neg (by omega)]) <;> rfl), S1.nil⟩
   ·skip
    refine J.head (.bool false) (congrArg Value.bool (beq_eq_false_iff_ne.2 fk3)) ?_
    refine J.run 6 K51_10 [(18, .pointer (some ⟨b1, 4, none⟩))] w1 (by kernel_rfl) ?_
    refine J.ok (OK.ldBox S1 0 19 3 4 (iv i.gK) (by kernel_rfl) rfl (by kernel_rfl)) ?_
    refine J.run 2 K51_11 [(4, iv i.gK)] w1 (by kernel_rfl) ?_
    refine J.ret Tryz.f51 [iv i.gK] Tryz.func51 ⟨by kernel_rfl, trivial⟩ ?_
    refine hR _ _ ?_
    exact ⟨congrArg (Value.int .i64) (by unfold fldF; (repeat first | rw [if_pos (by omega)] | rw [if_neg (by omega)]) <;> rfl), S1.nil⟩

theorem hb79 : HasBody Tryz.prog 79 := fun _ _ => by kernel_rfl
noncomputable def K79_0 : List Item := adv 2 [] (bodyOf Tryz.f79)
noncomputable def K79_1 : List Item := adv 5 [] (popK K79_0)
noncomputable def K79_2 : List Item := adv 13 [] (popK (popK K79_1))
noncomputable def K79_3 : List Item := adv 3 [] (popK K79_2)
noncomputable def K79_4 : List Item := adv 4 [true] K79_3
noncomputable def K79_5 : List Item := adv 2 [] (popK K79_4)
noncomputable def K79_6 : List Item := adv 1 [] K79_5
noncomputable def K79_7 : List Item := adv 4 [] (popK K79_6)
noncomputable def K79_8 : List Item := adv 6 [] K79_5
noncomputable def K79_9 : List Item := adv 4 [false] K79_3
noncomputable def K79_10 : List Item := adv 3 [] (popK K79_9)
noncomputable def K79_11 : List Item := adv 4 [true] K79_10
noncomputable def K79_12 : List Item := adv 2 [] (popK K79_11)
noncomputable def K79_13 : List Item := adv 1 [] K79_12
noncomputable def K79_14 : List Item := adv 4 [] (popK K79_13)
noncomputable def K79_15 : List Item := adv 6 [] K79_12
noncomputable def K79_16 : List Item := adv 4 [false] K79_10
noncomputable def K79_17 : List Item := adv 2 [] (popK (popK K79_16))
noncomputable def K79_18 : List Item := adv 4 [true] K79_17
noncomputable def K79_19 : List Item := adv 2 [] (popK K79_18)
noncomputable def K79_20 : List Item := adv 1 [] K79_19
noncomputable def K79_21 : List Item := adv 3 [] (popK K79_20)
noncomputable def K79_22 : List Item := adv 3 [] K79_21
noncomputable def K79_23 : List Item := adv 14 [] K79_22
noncomputable def K79_24 : List Item := adv 12 [] K79_23
noncomputable def K79_25 : List Item := adv 1 [] K79_23
noncomputable def K79_26 : List Item := adv 2 [] (popK K79_25)
noncomputable def K79_27 : List Item := adv 8 [] K79_26
noncomputable def K79_28 : List Item := adv 1 [] K79_26
noncomputable def K79_29 : List Item := adv 6 [] (popK K79_28)
noncomputable def K79_30 : List Item := adv 1 [] K79_22
noncomputable def K79_31 : List Item := adv 2 [] (popK K79_30)
noncomputable def K79_32 : List Item := adv 22 [] K79_31
noncomputable def K79_33 : List Item := adv 1 [] K79_31
noncomputable def K79_34 : List Item := adv 5 [] (popK K79_33)
noncomputable def K79_35 : List Item := adv 15 [] K79_34
noncomputable def K79_36 : List Item := adv 3 [] K79_34
noncomputable def K79_37 : List Item := adv 12 [] K79_36
noncomputable def K79_38 : List Item := adv 1 [] K79_36
noncomputable def K79_39 : List Item := adv 2 [] (popK K79_38)
noncomputable def K79_40 : List Item := adv 8 [] K79_39
noncomputable def K79_41 : List Item := adv 1 [] K79_39
noncomputable def K79_42 : List Item := adv 6 [] (popK K79_41)
noncomputable def K79_43 : List Item := adv 29 [] K79_21
noncomputable def K79_44 : List Item := adv 34 [] K79_19
noncomputable def K79_45 : List Item := adv 4 [false] K79_17
noncomputable def K79_46 : List Item := adv 3 [] (popK K79_45)
noncomputable def K79_47 : List Item := adv 4 [true] K79_46
noncomputable def K79_48 : List Item := adv 2 [] (popK K79_47)
noncomputable def K79_49 : List Item := adv 1 [] K79_48
noncomputable def K79_50 : List Item := adv 3 [] (popK K79_49)
noncomputable def K79_51 : List Item := adv 1 [] K79_50
noncomputable def K79_52 : List Item := adv 1 [] (popK K79_51)
noncomputable def K79_53 : List Item := adv 4 [] K79_52
noncomputable def K79_54 : List Item := adv 7 [] K79_50
noncomputable def K79_55 : List Item := adv 12 [] K79_48
noncomputable def K79_56 : List Item := adv 6 [false] K79_46
noncomputable def K79_57 : List Item := adv 2 [] (popK K79_56)
noncomputable def K79_58 : List Item := adv 1 [] K79_57
noncomputable def K79_59 : List Item := adv 4 [] (popK K79_58)
noncomputable def K79_60 : List Item := adv 6 [] K79_57
set_option maxRecDepth 20000 in
set_option maxHeartbeats 20000000 in
theorem constant_any (i : Ins) (w : World) (hi : insQ w i) : Ret Tryz.prog 79 #[.agg (insA i)] w (fun v w' => v = .bool (kB i.gOp i.gK) ∧ Sep w [] w') := by
 have S0 := Sep.refl w
 refine Ret.named fun R hR => ?_
 refine Ret.of_J (N := 103) [(0, .agg (insA i))] Tryz.func79 rfl rfl (Nat.le_of_ble_eq_true (by kernel_rfl)) (by kernel_rfl) ?_
 obtain ⟨q1, q2, q3, q4, q5, _⟩ := id hi
 refine J.run 2 K79_0 [(0, .agg (insA i))] w (by kernel_rfl) ?_
 refine J.new S0 1 (insC i) 44 (by kernel_rfl) ?_
 intro b1 w1 S1
 refine J.run 5 K79_1 [(7, .pointer (some ⟨b1, 4, none⟩)), (1, pv b1)] w1 (by kernel_rfl) ?_
 refine J.ok (OK.ldBox S1 0 8 3 4 (iv i.gK) (by kernel_rfl) rfl (by kernel_rfl)) ?_
 refine J.callF 9 88 #[iv i.gK] hb88 (by kernel_rfl) (split3_any i.gK _ (by omega)) ?_
 rintro _ w2 ⟨rfl, T1⟩
 have S2 : Sep w [box b1 (insC i) 44] w2 := S1.trans T1
 clear T1 S1
 refine J.run 13 K79_2 [(14, pv b1), (5, iv (i.gK % 128)), (4, iv (i.gK / 128 % 128)), (1, pv b1)] w2 (by kernel_rfl) ?_
 refine J.ok (OK.ldBox S2 0 15 3 0 (iv i.gOp) (by kernel_rfl) rfl (by kernel_rfl)) ?_
 refine J.run 3 K79_3 [(13, .bool (i.gOp == 1)), (5, iv (i.gK % 128)), (4, iv (i.gK / 128 % 128)), (1, pv b1)] w2 (by kernel_rfl) ?_
 by_cases fk1 : i.gOp = 1
 ·skip
  refine J.head (.bool true) (congrArg Value.bool (beq_iff_eq.2 fk1)) ?_
  refine J.run 4 K79_4 [(17, .pointer (some ⟨b1, 4, none⟩)), (1, pv b1)] w2 (by kernel_rfl) ?_
  refine J.ok (OK.ldBox S2 0 18 3 4 (iv i.gK) (by kernel_rfl) rfl (by kernel_rfl)) ?_
  refine J.run 2 K79_5 [(20, .bool (decide (i.gK ≥ (-1099511627776)))), (1, pv b1)] w2 (by kernel_rfl) ?_
  by_cases fk2 : i.gK ≥ (-1099511627776)
  ·skip
   refine J.head (.bool true) (congrArg Value.bool (decide_eq_true fk2)) ?_
   refine J.run 1 K79_6 [(21, .pointer (some ⟨b1, 4, none⟩)), (20, .bool true)] w2 (by kernel_rfl) ?_
   refine J.ok (OK.ldBox S2 0 22 3 4 (iv i.gK) (by kernel_rfl) rfl (by kernel_rfl)) ?_
   refine J.run 4 K79_7 [(2, .bool (decide (i.gK ≤ 1099511627776)))] w2 (by kernel_rfl) ?_
   refine J.ret Tryz.f79 [.bool (decide (i.gK ≤ 1099511627776))] Tryz.func79 ⟨by kernel_rfl, trivial⟩ ?_
   refine hR _ _ ?_
   exact ⟨congrArg Value.bool (by show (decide (i.gK ≤ 1099511627776)) = decide (kP i.gOp i.gK); by_cases hz_ : i.gK ≤ 1099511627776; (rw [(decide_eq_true hz_)]; first | exact (decide_eq_true (by omega)).symm | exact (decide_eq_false (by omega)).symm); (rw [(decide_eq_false hz_)]; first | exact (decide_eq_false (by omega)).symm | exact (decide_eq_true (by omega)).symm)), S2.nil⟩
  ·skip
   refine J.head (.bool false) (congrArg Value.bool (decide_eq_false fk2)) ?_
   refine J.run 6 K79_8 [(2, .bool false)] w2 (by kernel_rfl) ?_
   refine J.ret Tryz.f79 [.bool false] Tryz.func79 ⟨by kernel_rfl, trivial⟩ ?_
   refine hR _ _ ?_
   exact ⟨congrArg Value.bool (decide_eq_false (show ¬ (kP i.gOp i.gK) by omega)).symm, S2.nil⟩
 ·skip
  refine J.head (.bool false) (congrArg Value.bool (beq_eq_false_iff_ne.2 fk1)) ?_
  refine J.run 4 K79_9 [(26, pv b1), (5, iv (i.gK % 128)), (4, iv (i.gK / 128 % 128)), (1, pv b1)] w2 (by kernel_rfl) ?_
  refine J.ok (OK.ldBox S2 0 27 3 0 (iv i.gOp) (by kernel_rfl) rfl (by kernel_rfl)) ?_
  refine J.run 3 K79_10 [(25, .bool (i.gOp == 19)), (5, iv (i.gK % 128)), (4, iv (i.gK / 128 % 128)), (1, pv b1)] w2 (by kernel_rfl) ?_
  by_cases fk3 : i.gOp = 19
  ·skip
   refine J.head (.bool true) (congrArg Value.bool (beq_iff_eq.2 fk3)) ?_
   refine J.run 4 K79_11 [(29, .pointer (some ⟨b1, 4, none⟩)), (1, pv b1)] w2 (by kernel_rfl) ?_
   refine J.ok (OK.ldBox S2 0 30 3 4 (iv i.gK) (by kernel_rfl) rfl (by kernel_rfl)) ?_
   refine J.run 2 K79_12 [(32, .bool (decide (i.gK ≥ 0))), (1, pv b1)] w2 (by kernel_rfl) ?_
   by_cases fk4 : i.gK ≥ 0
   ·skip
    refine J.head (.bool true) (congrArg Value.bool (decide_eq_true fk4)) ?_
    refine J.run 1 K79_13 [(33, .pointer (some ⟨b1, 4, none⟩)), (32, .bool true)] w2 (by kernel_rfl) ?_
    refine J.ok (OK.ldBox S2 0 34 3 4 (iv i.gK) (by kernel_rfl) rfl (by kernel_rfl)) ?_
    refine J.run 4 K79_14 [(2, .bool (decide (i.gK < 16)))] w2 (by kernel_rfl) ?_
    refine J.ret Tryz.f79 [.bool (decide (i.gK < 16))] Tryz.func79 ⟨by kernel_rfl, trivial⟩ ?_
    refine hR _ _ ?_
    exact ⟨congrArg Value.bool (by show (decide (i.gK < 16)) = decide (kP i.gOp i.gK); by_cases hz_ : i.gK < 16; (rw [(decide_eq_true hz_)]; first | exact (decide_eq_true (by omega)).symm | exact (decide_eq_false (by omega)).symm); (rw [(decide_eq_false hz_)]; first | exact (decide_eq_false (by omega)).symm | exact (decide_eq_true (by omega)).symm)), S2.nil⟩
   ·skip
    refine J.head (.bool false) (congrArg Value.bool (decide_eq_false fk4)) ?_
    refine J.run 6 K79_15 [(2, .bool false)] w2 (by kernel_rfl) ?_
    refine J.ret Tryz.f79 [.bool false] Tryz.func79 ⟨by kernel_rfl, trivial⟩ ?_
    refine hR _ _ ?_
    exact ⟨congrArg Value.bool (decide_eq_false (show ¬ (kP i.gOp i.gK) by omega)).symm, S2.nil⟩
  ·skip
   refine J.head (.bool false) (congrArg Value.bool (beq_eq_false_iff_ne.2 fk3)) ?_
   refine J.run 4 K79_16 [(38, pv b1), (5, iv (i.gK % 128)), (4, iv (i.gK / 128 % 128)), (1, pv b1)] w2 (by kernel_rfl) ?_
   refine J.ok (OK.ldBox S2 0 39 3 0 (iv i.gOp) (by kernel_rfl) rfl (by kernel_rfl)) ?_
   refine J.callF 40 71 #[iv i.gOp] hb71 (by kernel_rfl) (typed_any i.gOp _) ?_
   rintro _ w3 ⟨rfl, T2⟩
   have S3 : Sep w [box b1 (insC i) 44] w3 := S2.trans T2
   clear T2 S2
   refine J.run 2 K79_17 [(37, .bool (decide (typedP i.gOp))), (5, iv (i.gK % 128)), (4, iv (i.gK / 128 % 128)), (1, pv b1)] w3 (by kernel_rfl) ?_
   rcases Bool.eq_false_or_eq_true (decide (typedP i.gOp)) with fk5 | fk5
   ·skip
    refine J.head (.bool true) (congrArg Value.bool fk5) ?_
    have fb1 := of_decide_eq_true fk5
    refine J.run 4 K79_18 [(41, .pointer (some ⟨b1, 4, none⟩)), (5, iv (i.gK % 128)), (4, iv (i.gK / 128 % 128)), (1, pv b1)] w3 (by kernel_rfl) ?_
    refine J.ok (OK.ldBox S3 0 42 3 4 (iv i.gK) (by kernel_rfl) rfl (by kernel_rfl)) ?_
    refine J.run 2 K79_19 [(44, .bool (decide (i.gK ≥ 0))), (5, iv (i.gK % 128)), (4, iv (i.gK / 128 % 128)), (1, pv b1)] w3 (by kernel_rfl) ?_
    by_cases fk6 : i.gK ≥ 0
    ·skip
     refine J.head (.bool true) (congrArg Value.bool (decide_eq_true fk6)) ?_
     refine J.run 1 K79_20 [(45, .pointer (some ⟨b1, 4, none⟩)), (44, .bool true), (5, iv (i.gK % 128)), (4, iv (i.gK / 128 % 128)), (1, pv b1)] w3 (by kernel_rfl) ?_
     refine J.ok (OK.ldBox S3 0 46 3 4 (iv i.gK) (by kernel_rfl) rfl (by kernel_rfl)) ?_
     refine J.run 3 K79_21 [(49, .bool (decide (i.gK < 2097152))), (5, iv (i.gK % 128)), (4, iv (i.gK / 128 % 128)), (1, pv b1)] w3 (by kernel_rfl) ?_
     by_cases fk7 : i.gK < 2097152
     ·skip
      refine J.head (.bool true) (congrArg Value.bool (decide_eq_true fk7)) ?_
      refine J.run 3 K79_22 [(52, .bool ((i.gK / 128 % 128) == 0)), (49, .bool true), (5, iv (i.gK % 128)), (1, pv b1)] w3 (by kernel_rfl) ?_
      by_cases fk8 : (i.gK / 128 % 128) = 0
      ·skip
       refine J.head (.bool true) (congrArg Value.bool (beq_iff_eq.2 fk8)) ?_
       refine J.run 14 K79_23 [(66, .bool ((i.gK % 128) == 0)), (63, .bool true), (1, pv b1)] w3 (by kernel_rfl) ?_
       by_cases fk9 : (i.gK % 128) = 0
       ·skip
        refine J.head (.bool true) (congrArg Value.bool (beq_iff_eq.2 fk9)) ?_
        refine J.run 12 K79_24 [(2, .bool true)] w3 (by kernel_rfl) ?_
        refine J.ret Tryz.f79 [.bool true] Tryz.func79 ⟨by kernel_rfl, trivial⟩ ?_
        refine hR _ _ ?_
        exact ⟨congrArg Value.bool (decide_eq_true (show kP i.gOp i.gK by omega)).symm, S3.nil⟩
       ·skip
        refine J.head (.bool false) (congrArg Value.bool (beq_eq_false_iff_ne.2 fk9)) ?_
        refine J.run 1 K79_25 [(67, pv b1), (66, .bool false), (63, .bool true), (1, pv b1)] w3 (by kernel_rfl) ?_
        refine J.ok (OK.ldBox S3 0 68 3 0 (iv i.gOp) (by kernel_rfl) rfl (by kernel_rfl)) ?_
        refine J.run 2 K79_26 [(70, .bool (i.gOp != 13)), (66, .bool false), (63, .bool true), (1, pv b1)] w3 (by kernel_rfl) ?_
        by_cases fk10 : i.gOp = 13
        ·skip
         refine J.head (.bool false) (congrArg Value.bool (bne_eq_false_iff_eq.2 fk10)) ?_
         refine J.run 8 K79_27 [(2, .bool false)] w3 (by kernel_rfl) ?_
         refine J.ret Tryz.f79 [.bool false] Tryz.func79 ⟨by kernel_rfl, trivial⟩ ?_
         refine hR _ _ ?_
         exact ⟨congrArg Value.bool (decide_eq_false (show ¬ (kP i.gOp i.gK) by omega)).symm, S3.nil⟩
        ·skip
         refine J.head (.bool true) (congrArg Value.bool (bne_iff_ne.2 fk10)) ?_
         refine J.run 1 K79_28 [(71, pv b1), (70, .bool true), (66, .bool false), (63, .bool true)] w3 (by kernel_rfl) ?_
         refine J.ok (OK.ldBox S3 0 72 3 0 (iv i.gOp) (by kernel_rfl) rfl (by kernel_rfl)) ?_
         refine J.run 6 K79_29 [(2, .bool (i.gOp != 14))] w3 (by kernel_rfl) ?_
         refine J.ret Tryz.f79 [.bool (i.gOp != 14)] Tryz.func79 ⟨by kernel_rfl, trivial⟩ ?_
         refine hR _ _ ?_
         exact ⟨congrArg Value.bool (by show (i.gOp != 14) = decide (kP i.gOp i.gK); by_cases hz_ : i.gOp = 14; (rw [(bne_eq_false_iff_eq.2 hz_)]; first | exact (decide_eq_true (by omega)).symm | exact (decide_eq_false (by omega)).symm); (rw [(bne_iff_ne.2 hz_)]; first | exact (decide_eq_false (by omega)).symm | exact (decide_eq_true (by omega)).symm)), S3.nil⟩
      ·skip
       refine J.head (.bool false) (congrArg Value.bool (beq_eq_false_iff_ne.2 fk8)) ?_
       refine J.run 1 K79_30 [(53, pv b1), (52, .bool false), (49, .bool true), (5, iv (i.gK % 128)), (1, pv b1)] w3 (by kernel_rfl) ?_
       refine J.ok (OK.ldBox S3 0 54 3 0 (iv i.gOp) (by kernel_rfl) rfl (by kernel_rfl)) ?_
       refine J.run 2 K79_31 [(56, .bool (i.gOp != 9)), (52, .bool false), (49, .bool true), (5, iv (i.gK % 128)), (1, pv b1)] w3 (by kernel_rfl) ?_
       by_cases fk11 : i.gOp = 9
       ·skip
        refine J.head (.bool false) (congrArg Value.bool (bne_eq_false_iff_eq.2 fk11)) ?_
        refine J.run 22 K79_32 [(2, .bool false)] w3 (by kernel_rfl) ?_
        refine J.ret Tryz.f79 [.bool false] Tryz.func79 ⟨by kernel_rfl, trivial⟩ ?_
        refine hR _ _ ?_
        exact ⟨congrArg Value.bool (decide_eq_false (show ¬ (kP i.gOp i.gK) by omega)).symm, S3.nil⟩
       ·skip
        refine J.head (.bool true) (congrArg Value.bool (bne_iff_ne.2 fk11)) ?_
        refine J.run 1 K79_33 [(57, pv b1), (56, .bool true), (52, .bool false), (49, .bool true), (5, iv (i.gK % 128)), (1, pv b1)] w3 (by kernel_rfl) ?_
        refine J.ok (OK.ldBox S3 0 58 3 0 (iv i.gOp) (by kernel_rfl) rfl (by kernel_rfl)) ?_
        refine J.run 5 K79_34 [(63, .bool (i.gOp != 10)), (5, iv (i.gK % 128)), (1, pv b1)] w3 (by kernel_rfl) ?_
        by_cases fk12 : i.gOp = 10
        ·skip
         refine J.head (.bool false) (congrArg Value.bool (bne_eq_false_iff_eq.2 fk12)) ?_
         refine J.run 15 K79_35 [(2, .bool false)] w3 (by kernel_rfl) ?_
         refine J.ret Tryz.f79 [.bool false] Tryz.func79 ⟨by kernel_rfl, trivial⟩ ?_
         refine hR _ _ ?_
         exact ⟨congrArg Value.bool (decide_eq_false (show ¬ (kP i.gOp i.gK) by omega)).symm, S3.nil⟩
        ·skip
         refine J.head (.bool true) (congrArg Value.bool (bne_iff_ne.2 fk12)) ?_
         refine J.run 3 K79_36 [(66, .bool ((i.gK % 128) == 0)), (63, .bool true), (1, pv b1)] w3 (by kernel_rfl) ?_
         by_cases fk13 : (i.gK % 128) = 0
         ·skip
          refine J.head (.bool true) (congrArg Value.bool (beq_iff_eq.2 fk13)) ?_
          refine J.run 12 K79_37 [(2, .bool true)] w3 (by kernel_rfl) ?_
          refine J.ret Tryz.f79 [.bool true] Tryz.func79 ⟨by kernel_rfl, trivial⟩ ?_
          refine hR _ _ ?_
          exact ⟨congrArg Value.bool (decide_eq_true (show kP i.gOp i.gK by omega)).symm, S3.nil⟩
         ·skip
          refine J.head (.bool false) (congrArg Value.bool (beq_eq_false_iff_ne.2 fk13)) ?_
          refine J.run 1 K79_38 [(67, pv b1), (66, .bool false), (63, .bool true), (1, pv b1)] w3 (by kernel_rfl) ?_
          refine J.ok (OK.ldBox S3 0 68 3 0 (iv i.gOp) (by kernel_rfl) rfl (by kernel_rfl)) ?_
          refine J.run 2 K79_39 [(70, .bool (i.gOp != 13)), (66, .bool false), (63, .bool true), (1, pv b1)] w3 (by kernel_rfl) ?_
          by_cases fk14 : i.gOp = 13
          ·skip
           refine J.head (.bool false) (congrArg Value.bool (bne_eq_false_iff_eq.2 fk14)) ?_
           refine J.run 8 K79_40 [(2, .bool false)] w3 (by kernel_rfl) ?_
           refine J.ret Tryz.f79 [.bool false] Tryz.func79 ⟨by kernel_rfl, trivial⟩ ?_
           refine hR _ _ ?_
           exact ⟨congrArg Value.bool (decide_eq_false (show ¬ (kP i.gOp i.gK) by omega)).symm, S3.nil⟩
          ·skip
           refine J.head (.bool true) (congrArg Value.bool (bne_iff_ne.2 fk14)) ?_
           refine J.run 1 K79_41 [(71, pv b1), (70, .bool true), (66, .bool false), (63, .bool true)] w3 (by kernel_rfl) ?_
           refine J.ok (OK.ldBox S3 0 72 3 0 (iv i.gOp) (by kernel_rfl) rfl (by kernel_rfl)) ?_
           refine J.run 6 K79_42 [(2, .bool (i.gOp != 14))] w3 (by kernel_rfl) ?_
           refine J.ret Tryz.f79 [.bool (i.gOp != 14)] Tryz.func79 ⟨by kernel_rfl, trivial⟩ ?_
           refine hR _ _ ?_
           exact ⟨congrArg Value.bool (by show (i.gOp != 14) = decide (kP i.gOp i.gK); by_cases hz_ : i.gOp = 14; (rw [(bne_eq_false_iff_eq.2 hz_)]; first | exact (decide_eq_true (by omega)).symm | exact (decide_eq_false (by omega)).symm); (rw [(bne_iff_ne.2 hz_)]; first | exact (decide_eq_false (by omega)).symm | exact (decide_eq_true (by omega)).symm)), S3.nil⟩
     ·skip
      refine J.head (.bool false) (congrArg Value.bool (decide_eq_false fk7)) ?_
      refine J.run 29 K79_43 [(2, .bool false)] w3 (by kernel_rfl) ?_
      refine J.ret Tryz.f79 [.bool false] Tryz.func79 ⟨by kernel_rfl, trivial⟩ ?_
      refine hR _ _ ?_
      exact ⟨congrArg Value.bool (decide_eq_false (show ¬ (kP i.gOp i.gK) by omega)).symm, S3.nil⟩
    ·skip
     refine J.head (.bool false) (congrArg Value.bool (decide_eq_false fk6)) ?_
     refine J.run 34 K79_44 [(2, .bool false)] w3 (by kernel_rfl) ?_
     refine J.ret Tryz.f79 [.bool false] Tryz.func79 ⟨by kernel_rfl, trivial⟩ ?_
     refine hR _ _ ?_
     exact ⟨congrArg Value.bool (decide_eq_false (show ¬ (kP i.gOp i.gK) by omega)).symm, S3.nil⟩
   ·skip
    refine J.head (.bool false) (congrArg Value.bool fk5) ?_
    have fb2 := of_decide_eq_false fk5
    refine J.run 4 K79_45 [(78, pv b1), (1, pv b1)] w3 (by kernel_rfl) ?_
    refine J.ok (OK.ldBox S3 0 79 3 0 (iv i.gOp) (by kernel_rfl) rfl (by kernel_rfl)) ?_
    refine J.run 3 K79_46 [(77, .bool (i.gOp == 22)), (1, pv b1)] w3 (by kernel_rfl) ?_
    by_cases fk15 : i.gOp = 22
    ·skip
     refine J.head (.bool true) (congrArg Value.bool (beq_iff_eq.2 fk15)) ?_
     refine J.run 4 K79_47 [(81, .pointer (some ⟨b1, 4, none⟩)), (1, pv b1)] w3 (by kernel_rfl) ?_
     refine J.ok (OK.ldBox S3 0 82 3 4 (iv i.gK) (by kernel_rfl) rfl (by kernel_rfl)) ?_
     refine J.run 2 K79_48 [(84, .bool (decide (i.gK ≥ 0))), (1, pv b1)] w3 (by kernel_rfl) ?_
     by_cases fk16 : i.gK ≥ 0
     ·skip
      refine J.head (.bool true) (congrArg Value.bool (decide_eq_true fk16)) ?_
      refine J.run 1 K79_49 [(85, .pointer (some ⟨b1, 4, none⟩)), (84, .bool true), (1, pv b1)] w3 (by kernel_rfl) ?_
      refine J.ok (OK.ldBox S3 0 86 3 4 (iv i.gK) (by kernel_rfl) rfl (by kernel_rfl)) ?_
      refine J.run 3 K79_50 [(89, .bool (decide (i.gK ≤ 32767))), (1, pv b1)] w3 (by kernel_rfl) ?_
      by_cases fk17 : i.gK ≤ 32767
      ·skip
       refine J.head (.bool true) (congrArg Value.bool (decide_eq_true fk17)) ?_
       refine J.run 1 K79_51 [(90, .pointer (some ⟨b1, 4, none⟩)), (89, .bool true)] w3 (by kernel_rfl) ?_
       refine J.ok (OK.ldBox S3 0 91 3 4 (iv i.gK) (by kernel_rfl) rfl (by kernel_rfl)) ?_
       refine J.run 1 K79_52 [(92, iv (IntKind.wrap .i64 ((BitVec.ofInt 64 i.gK &&& (BitVec.ofInt 64 (31 : Int))).toNat : Int))), (89, .bool true)] w3 (by kernel_rfl) ?_
       refine J.head (iv (i.gK % 32)) (congrArg (Value.int .i64) (and_mask_i64 5 _ _ (by rfl) (by decide))) ?_
       refine J.run 4 K79_53 [(2, .bool (decide ((i.gK % 32) ≤ 20)))] w3 (by kernel_rfl) ?_
       refine J.ret Tryz.f79 [.bool (decide ((i.gK % 32) ≤ 20))] Tryz.func79 ⟨by kernel_rfl, trivial⟩ ?_
       refine hR _ _ ?_
       exact ⟨congrArg Value.bool (by show (decide ((i.gK % 32) ≤ 20)) = decide (kP i.gOp i.gK); by_cases hz_ : (i.gK % 32) ≤ 20; (rw [(decide_eq_true hz_)]; first | exact (decide_eq_true (by omega)).symm | exact (decide_eq_false (by omega)).symm); (rw [(decide_eq_false hz_)]; first | exact (decide_eq_false (by omega)).symm | exact (decide_eq_true (by omega)).symm)), S3.nil⟩
      ·skip
       refine J.head (.bool false) (congrArg Value.bool (decide_eq_false fk17)) ?_
       refine J.run 7 K79_54 [(2, .bool false)] w3 (by kernel_rfl) ?_
       refine J.ret Tryz.f79 [.bool false] Tryz.func79 ⟨by kernel_rfl, trivial⟩ ?_
       refine hR _ _ ?_
       exact ⟨congrArg Value.bool (decide_eq_false (show ¬ (kP i.gOp i.gK) by omega)).symm, S3.nil⟩
     ·skip
      refine J.head (.bool false) (congrArg Value.bool (decide_eq_false fk16)) ?_
      refine J.run 12 K79_55 [(2, .bool false)] w3 (by kernel_rfl) ?_
      refine J.ret Tryz.f79 [.bool false] Tryz.func79 ⟨by kernel_rfl, trivial⟩ ?_
      refine hR _ _ ?_
      exact ⟨congrArg Value.bool (decide_eq_false (show ¬ (kP i.gOp i.gK) by omega)).symm, S3.nil⟩
    ·skip
     refine J.head (.bool false) (congrArg Value.bool (beq_eq_false_iff_ne.2 fk15)) ?_
     refine J.run 6 K79_56 [(95, .pointer (some ⟨b1, 4, none⟩)), (1, pv b1)] w3 (by kernel_rfl) ?_
     refine J.ok (OK.ldBox S3 0 96 3 4 (iv i.gK) (by kernel_rfl) rfl (by kernel_rfl)) ?_
     refine J.run 2 K79_57 [(98, .bool (decide (i.gK ≥ 0))), (1, pv b1)] w3 (by kernel_rfl) ?_
     by_cases fk18 : i.gK ≥ 0
     ·skip
      refine J.head (.bool true) (congrArg Value.bool (decide_eq_true fk18)) ?_
      refine J.run 1 K79_58 [(99, .pointer (some ⟨b1, 4, none⟩)), (98, .bool true)] w3 (by kernel_rfl) ?_
      refine J.ok (OK.ldBox S3 0 100 3 4 (iv i.gK) (by kernel_rfl) rfl (by kernel_rfl)) ?_
      refine J.run 4 K79_59 [(2, .bool (decide (i.gK ≤ 32767)))] w3 (by kernel_rfl) ?_
      refine J.ret Tryz.f79 [.bool (decide (i.gK ≤ 32767))] Tryz.func79 ⟨by kernel_rfl, trivial⟩ ?_
      refine hR _ _ ?_
      exact ⟨congrArg Value.bool (by show (decide (i.gK ≤ 32767)) = decide (kP i.gOp i.gK); by_cases hz_ : i.gK ≤ 32767; (rw [(decide_eq_true hz_)]; first | exact (decide_eq_true (by omega)).symm | exact (decide_eq_false (by omega)).symm); (rw [(decide_eq_false hz_)]; first | exact (decide_eq_false (by omega)).symm | exact (decide_eq_true (by omega)).symm)), S3.nil⟩
     ·skip
      refine J.head (.bool false) (congrArg Value.bool (decide_eq_false fk18)) ?_
      refine J.run 6 K79_60 [(2, .bool false)] w3 (by kernel_rfl) ?_
      refine J.ret Tryz.f79 [.bool false] Tryz.func79 ⟨by kernel_rfl, trivial⟩ ?_
      refine hR _ _ ?_
      exact ⟨congrArg Value.bool (decide_eq_false (show ¬ (kP i.gOp i.gK) by omega)).symm, S3.nil⟩

end Go.Proofs.YthfpejhonhaggaaGreatDoor

