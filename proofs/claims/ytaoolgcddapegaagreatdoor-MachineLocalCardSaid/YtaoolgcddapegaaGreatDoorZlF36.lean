/- Walks of functions of this seat, printed by a program over the engine. Conditions: as each theorem says. -/
import Derived.Test.YtaoolgcddapegaaGreatDoorZlF35
namespace Go.Proofs.YtaoolgcddapegaaGreatDoor
open Go.Eng Go.RowKit
set_option linter.unusedSimpArgs false
set_option linter.unusedVariables false
set_option maxRecDepth 20000
set_option maxHeartbeats 20000000
/-! layer 7: the lag -/
def lagB (y r sh : Int) : Bool := decide (-1099511627776 ≤ y ∧ y ≤ 1099511627776) && decide (0 ≤ r) && decide (r < 2 ^ sh.toNat)
def lagY (y r x sh : Int) : Int := y + (x - y + r) / 2 ^ sh.toNat
def lagR (y r x sh : Int) : Int := x - y + r - (x - y + r) / 2 ^ sh.toNat * 2 ^ sh.toNat
def lagE (y r sh : Int) : Int := if lagB y r sh then 0 else 1
def lagP (y r x sh : Int) : Int := if lagB y r sh then lagY y r x sh else 0
def lagQ (y r x sh : Int) : Int := if lagB y r sh then lagR y r x sh else 0
theorem lag_yes {y r x sh : Int} (h : lagB y r sh = true) : lagE y r sh = 0 ∧ lagP y r x sh = lagY y r x sh ∧ lagQ y r x sh = lagR y r x sh := by unfold lagE lagP lagQ; rw [h]; exact ⟨rfl, rfl, rfl⟩
theorem lag_no {y r x sh : Int} (h : lagB y r sh = false) : lagE y r sh = 1 ∧ lagP y r x sh = 0 ∧ lagQ y r x sh = 0 := by unfold lagE lagP lagQ; rw [h]; exact ⟨rfl, rfl, rfl⟩
theorem lagB_no {y r sh : Int} (h : ¬ (-1099511627776 ≤ y ∧ y ≤ 1099511627776) ∨ r < 0 ∨ 2 ^ sh.toNat ≤ r) : lagB y r sh = false := by
  unfold lagB
  rcases h with h | h | h
  · rw [decide_eq_false h]; rfl
  · rw [decide_eq_false (show ¬ 0 ≤ r by omega)]; simp
  · rw [decide_eq_false (show ¬ r < 2 ^ sh.toNat by omega)]; simp
theorem lagB_yes {y r sh : Int} (h1 : -1099511627776 ≤ y ∧ y ≤ 1099511627776) (h2 : 0 ≤ r) (h3 : r < 2 ^ sh.toNat) : lagB y r sh = true := by
  unfold lagB; rw [decide_eq_true h1, decide_eq_true h2, decide_eq_true h3]; rfl
theorem lagB_zero (sh : Int) : lagB 0 0 sh = true := lagB_yes (by omega) (by omega) (by exact_mod_cast Nat.two_pow_pos _)
theorem lagE_iff {y r sh : Int} : lagE y r sh = 0 ↔ lagB y r sh = true := by unfold lagE; split <;> simp_all
theorem lag_bd {n : Int} {k : Nat} (h : -4398046511104 ≤ n ∧ n ≤ 4398046511104) : (-4398046511104 ≤ n / 2 ^ k ∧ n / 2 ^ k ≤ 4398046511104) ∧ n / 2 ^ k * 2 ^ k ≤ n ∧ n < n / 2 ^ k * 2 ^ k + 2 ^ k := by
  have hp : (1 : Int) ≤ 2 ^ k := by exact_mod_cast Nat.one_le_two_pow
  have h1 := Int.mul_ediv_add_emod n (2 ^ k)
  have h2 := Int.emod_nonneg n (show (2 : Int) ^ k ≠ 0 by omega)
  have h3 := Int.emod_lt_of_pos n (show (0 : Int) < 2 ^ k by omega)
  rw [Int.mul_comm] at h1
  refine ⟨⟨?_, ?_⟩, by omega, by omega⟩
  · exact Int.le_ediv_of_mul_le (by omega) (by omega)
  · refine Int.le_of_lt_add_one (Int.ediv_lt_of_lt_mul (by omega) ?_)
    have := Int.mul_le_mul_of_nonneg_left hp (show (0 : Int) ≤ 4398046511105 by omega); omega
theorem pow_20 (sh : Int) (h : 0 ≤ sh ∧ sh ≤ 20) : (1 : Int) ≤ 2 ^ sh.toNat ∧ (2 : Int) ^ sh.toNat ≤ 1048576 := by
  have h1 : (1 : Int) ≤ 2 ^ sh.toNat := by exact_mod_cast Nat.one_le_two_pow
  have h2 : (2 : Int) ^ sh.toNat ≤ 2 ^ 20 := by exact_mod_cast Nat.pow_le_pow_right (by omega) (by omega)
  omega
theorem shr_p {x y : Int} (hy : 0 ≤ y ∧ y ≤ 64) : Int.fdiv x (2 ^ (min y.toNat 64)) = x / 2 ^ y.toNat := by
  rw [show min y.toNat 64 = y.toNat by omega, Int.fdiv_eq_ediv_of_nonneg _ (by exact_mod_cast Nat.zero_le _)]
theorem shl_p {x y : Int} (hy : 0 ≤ y ∧ y ≤ 64) (h : -9223372036854775808 ≤ x * 2 ^ y.toNat ∧ x * 2 ^ y.toNat ≤ 9223372036854775807) : IntKind.wrap .i64 (x * 2 ^ (min y.toNat 64)) = x * 2 ^ y.toNat := by
  rw [show min y.toNat 64 = y.toNat by omega]; exact IntWalk.i64_in _ h
/-! an instruction -/
def arN (t : Fxd) (x : Int) : Int := numF t (clampT t x)
def arE (op : Int) (tb : Fxd) (y : Int) : Int := if op = 8 ∧ arN tb y = 0 then 10 else 0
def arV (op : Int) (ta tb t : Fxd) (x y : Int) : Int :=
  if op = 9 then resT (arN ta x * -1) ta.gDen t else if op = 10 then resT (arN ta x * 1) ta.gDen t
  else if op = 13 then (if arN ta x * tb.gDen < arN tb y * ta.gDen then 1 else 0) else if op = 14 then (if arN ta x * tb.gDen = arN tb y * ta.gDen then 1 else 0)
  else if arE op tb y = 0 then opV (op - 4) ta (clampT ta x) tb (clampT tb y) t else 0
def tr01 (b : Bool) : Int := if b then 1 else 0
def exE (p : Prg) (i : Ins) (rs : List Int) : Int := if typedP i.gOp then arE i.gOp (tyB p i.gOp i.gK) (rs.getD i.gC.toNat 0) else 0
def lgOK (i : Ins) (cs : List Int) : Bool := lagB (cs.getD (i.gK / 32).toNat 0) (cs.getD (i.gK / 32 + 1).toNat 0) (i.gK % 32)
def lgX (x : Int) : Int := min (max x (-1099511627776)) 1099511627776
def lgY (i : Ins) (cs : List Int) (x : Int) : Int := if lgOK i cs then lagY (cs.getD (i.gK / 32).toNat 0) (cs.getD (i.gK / 32 + 1).toNat 0) (lgX x) (i.gK % 32) else lagY 0 0 (lgX x) (i.gK % 32)
def lgR (i : Ins) (cs : List Int) (x : Int) : Int := if lgOK i cs then lagR (cs.getD (i.gK / 32).toNat 0) (cs.getD (i.gK / 32 + 1).toNat 0) (lgX x) (i.gK % 32) else lagR 0 0 (lgX x) (i.gK % 32)
def lgC (i : Ins) (cs : List Int) (x : Int) : List Int := (cs.set (i.gK / 32).toNat (lgY i cs x)).set (i.gK / 32 + 1).toNat (lgR i cs x)
def exV (p : Prg) (i : Ins) (rs cs : List Int) : Int :=
  if i.gOp = 1 then i.gK else if i.gOp = 2 then cs.getD i.gK.toNat 0 else if i.gOp = 4 then rs.getD i.gB.toNat 0 else if i.gOp = 11 then min (rs.getD i.gB.toNat 0) (rs.getD i.gC.toNat 0)
  else if i.gOp = 12 then max (rs.getD i.gB.toNat 0) (rs.getD i.gC.toNat 0) else if i.gOp = 15 then tr01 (decide (rs.getD i.gB.toNat 0 < rs.getD i.gC.toNat 0)) else if i.gOp = 16 then tr01 (!decide (rs.getD i.gB.toNat 0 = 0) && !decide (rs.getD i.gC.toNat 0 = 0))
  else if i.gOp = 17 then tr01 (!decide (rs.getD i.gB.toNat 0 = 0) || !decide (rs.getD i.gC.toNat 0 = 0)) else if i.gOp = 18 then tr01 (decide (rs.getD i.gB.toNat 0 = 0))
  else if i.gOp = 19 then (if rs.getD i.gK.toNat 0 = 0 then rs.getD i.gC.toNat 0 else rs.getD i.gB.toNat 0) else if i.gOp = 20 then atV (p.gCurves_l.getD i.gK.toNat (⟨none, 0, 0, [], none, 0, 0, []⟩ : Crv)) (rs.getD i.gB.toNat 0)
  else if i.gOp = 21 then atF (p.gMaps_l.getD i.gK.toNat (⟨none, 0, 0, [], none, 0, 0, [], none, 0, 0, []⟩ : Mp)) (rs.getD i.gB.toNat 0) (rs.getD i.gC.toNat 0) else if i.gOp = 22 then lgY i cs (rs.getD i.gB.toNat 0)
  else arV i.gOp (tyA p i.gOp i.gK) (tyB p i.gOp i.gK) (tyC p i.gOp i.gK) (rs.getD i.gB.toNat 0) (rs.getD i.gC.toNat 0)
def exR (p : Prg) (i : Ins) (rs cs : List Int) : List Int := if exE p i rs ≠ 0 ∨ i.gOp = 3 then rs else rs.set i.gA.toNat (exV p i rs cs)
def exC (i : Ins) (rs cs : List Int) : List Int := if i.gOp = 3 then cs.set i.gK.toNat (rs.getD i.gA.toNat 0) else if i.gOp = 22 then lgC i cs (rs.getD i.gB.toNat 0) else cs
theorem exR_len (p : Prg) (i : Ins) (rs cs : List Int) : (exR p i rs cs).length = rs.length := by unfold exR; split <;> simp
theorem exC_len (i : Ins) (rs cs : List Int) : (exC i rs cs).length = cs.length := by unfold exC lgC; split <;> (try split) <;> simp
theorem ar_op {op k : Int} {ta tb t : Fxd} {x y : Int} (h : op = k + 4) (hk : 1 ≤ k ∧ k ≤ 4) : arV op ta tb t x y = fopW k ta (clampT ta x) tb (clampT tb y) t ∧ arE op tb y = opE k tb (clampT tb y) := by
  subst h
  have e : arE (k + 4) tb y = opE k tb (clampT tb y) := by
    unfold arE opE arN
    by_cases h : k = 4 ∧ numF tb (clampT tb y) = 0
    · rw [if_pos h, if_pos ⟨by omega, h.2⟩]
    · rw [if_neg h, if_neg (fun e => h ⟨by omega, e.2⟩)]
  refine ⟨?_, e⟩
  unfold arV fopW
  rw [if_neg (by omega), if_neg (by omega), if_neg (by omega), if_neg (by omega), e, show k + 4 - 4 = k by omega]
theorem unEq_symm {a b : Unt} (h : unEq a b = true) : unEq b a = true := unEq_iff.2 (unEq_iff.1 h).symm
theorem fits_typed {p : Prg} {i : Ins} (h : fitsI p i = true) (ht : typedP i.gOp) : tyOK p i.gOp i.gK = true ∧ unitsB i.gOp (unitT (tyA p i.gOp i.gK)) (unitT (tyB p i.gOp i.gK)) (unitT (tyC p i.gOp i.gK)) = true := by
  unfold fitsI namedB at h
  rw [if_neg (by omega), if_neg (by omega), if_neg (by omega), if_neg (by omega), if_pos ht] at h
  simp only [Bool.and_eq_true] at h
  exact h.2
theorem tyN_fix {p : Prg} {k : Int} (hv : p.gTypes_l.all fixB = true) (hl : p.gTypes_l.length = p.gTypes_n) (hk : 0 ≤ k) (h : k < (p.gTypes_n : Int)) : fixB (tyN p k) = true := (all_getD fx0).1 hv k.toNat (by omega)
theorem ar_facts {p : Prg} {i : Ins} (hv : validP p = true) (hl : p.gTypes_l.length = p.gTypes_n) (hf : fitsI p i = true) (ht : typedP i.gOp) (hk : 0 ≤ i.gK) :
    fixB (tyA p i.gOp i.gK) = true ∧ (i.gOp ≠ 9 ∧ i.gOp ≠ 10 → fixB (tyB p i.gOp i.gK) = true) ∧ (i.gOp ≠ 13 ∧ i.gOp ≠ 14 → fixB (tyC p i.gOp i.gK) = true) ∧ unitsB i.gOp (unitT (tyA p i.gOp i.gK)) (unitT (tyB p i.gOp i.gK)) (unitT (tyC p i.gOp i.gK)) = true := by
  obtain ⟨hok, hu⟩ := fits_typed hf ht
  obtain ⟨e1, e2, e3⟩ := ty_yes hok
  have h := tyOK_iff.1 hok
  have ha := (validP_facts hv).2.1
  refine ⟨by rw [e1]; exact tyN_fix ha hl (by omega) (by omega), fun h2 => ?_, fun h3 => ?_, hu⟩
  · rw [e2, if_pos h2]; exact tyN_fix ha hl (by omega) (by omega)
  · rw [e3, if_pos h3]; exact tyN_fix ha hl (by omega) (by omega)
theorem un_neg {op : Int} {a b t : Unt} (h : unitsB op a b t = true) (ho : op = 9 ∨ op = 10) : unEq a t = true := by
  unfold unitsB at h; rw [if_neg (by omega), if_neg (by omega), if_neg (by omega), if_pos ho] at h; exact h
theorem un_cmp {op : Int} {a b t : Unt} (h : unitsB op a b t = true) (ho : op = 13 ∨ op = 14) : unEq a b = true := by
  unfold unitsB at h; rw [if_neg (by omega), if_neg (by omega), if_neg (by omega), if_neg (by omega)] at h; exact h
theorem ar_less {op : Int} {ta tb t : Fxd} {x y : Int} (h : op = 13) : arV op ta tb t x y = tr01 (!decide (numF tb (clampT tb y) * ta.gDen ≤ numF ta (clampT ta x) * tb.gDen)) ∧ arE op tb y = 0 := by
  subst h; refine ⟨?_, rfl⟩
  unfold arV tr01 arN
  rw [if_neg (by omega), if_neg (by omega), if_pos rfl]
  by_cases h : numF tb (clampT tb y) * ta.gDen ≤ numF ta (clampT ta x) * tb.gDen
  · rw [if_neg (by omega), decide_eq_true h]; rfl
  · rw [if_pos (by omega), decide_eq_false h]; rfl
theorem ar_eq {op : Int} {ta tb t : Fxd} {x y : Int} (h : op = 14) {b : Bool} (hb : b = true ↔ numF tb (clampT tb y) * ta.gDen ≤ numF ta (clampT ta x) * tb.gDen ∧ numF ta (clampT ta x) * tb.gDen ≤ numF tb (clampT tb y) * ta.gDen) : arV op ta tb t x y = tr01 b ∧ arE op tb y = 0 := by
  subst h; refine ⟨?_, rfl⟩
  unfold arV tr01 arN
  rw [if_neg (by omega), if_neg (by omega), if_neg (by omega), if_pos rfl]
  by_cases h : numF ta (clampT ta x) * tb.gDen = numF tb (clampT tb y) * ta.gDen
  · rw [if_pos h, if_pos (hb.2 (by omega))]
  · rw [if_neg h, if_neg (fun e => h (by have := hb.1 e; omega))]
theorem ar_neg {op : Int} {ta tb t : Fxd} {x y : Int} (h : op = 9) : arV op ta tb t x y = resT (numF ta (clampT ta x) * (-1)) ta.gDen t ∧ arE op tb y = 0 := by subst h; exact ⟨rfl, rfl⟩
theorem ar_conv {op : Int} {ta tb t : Fxd} {x y : Int} (h : op = 10) : arV op ta tb t x y = resT (numF ta (clampT ta x) * 1) ta.gDen t ∧ arE op tb y = 0 := by subst h; exact ⟨rfl, rfl⟩
theorem bneD (a b : Int) : (a != b) = !decide (a = b) := rfl
theorem beqD (a b : Int) : (a == b) = decide (a = b) := rfl
theorem op_facts {p : Prg} {i : Ins} (h : namedB p i = true) : (i.gOp = 2 ∨ i.gOp = 3 → i.gK < p.gCells) ∧ (i.gOp = 20 → i.gK < (p.gCurves_n : Int)) ∧ (i.gOp = 21 → i.gK < (p.gMaps_n : Int)) ∧ (i.gOp = 22 → i.gK / 32 + 1 < p.gCells) := by
  unfold namedB at h
  refine ⟨fun e => ?_, fun e => ?_, fun e => ?_, fun e => ?_⟩
  · rw [if_pos e] at h; exact of_decide_eq_true h
  · rw [if_neg (by omega), if_pos e] at h; exact of_decide_eq_true h
  · rw [if_neg (by omega), if_neg (by omega), if_pos e] at h; exact of_decide_eq_true h
  · rw [if_neg (by omega), if_neg (by omega), if_neg (by omega), if_pos e] at h; exact of_decide_eq_true h
/-! steps and runs -/
def goodP (p : Prg) (n : Nat) : Bool := validP p && decide ((n : Int) = p.gCells)
theorem goodP_iff {p : Prg} {n : Nat} : goodP p n = true ↔ validP p = true ∧ (n : Int) = p.gCells := by unfold goodP; rw [Bool.and_eq_true, decide_eq_true_iff]
def codeI (p : Prg) (k : Int) : Ins := p.gCode_l.getD k.toNat ins0
abbrev zR : List Int := List.replicate 16 0
def stE (p : Prg) (n : Nat) (rs : List Int) (k : Int) : Int := if goodP p n then (if k < 0 ∨ (p.gCode_n : Int) ≤ k then 2 else exE p (codeI p k) rs) else 1
def stR (p : Prg) (n : Nat) (rs cs : List Int) (k : Int) : List Int := if stE p n rs k = 0 then exR p (codeI p k) rs cs else zR
def stC (p : Prg) (n : Nat) (rs cs : List Int) (k : Int) : List Int := if stE p n rs k = 0 then exC (codeI p k) rs cs else []
def stN (p : Prg) (n : Nat) (rs : List Int) (k : Int) : Int := if stE p n rs k = 0 then k + 1 else 0
theorem st_bad {p : Prg} {n : Nat} {rs cs : List Int} {k e : Int} (h : stE p n rs k = e) (he : e ≠ 0) : stR p n rs cs k = zR ∧ stC p n rs cs k = [] ∧ stN p n rs k = 0 := by
  unfold stR stC stN; rw [h, if_neg he, if_neg he, if_neg he]; exact ⟨rfl, rfl, rfl⟩
theorem st_ok {p : Prg} {n : Nat} {rs cs : List Int} {k : Int} (h : stE p n rs k = 0) : stR p n rs cs k = exR p (codeI p k) rs cs ∧ stC p n rs cs k = exC (codeI p k) rs cs ∧ stN p n rs k = k + 1 := by
  unfold stR stC stN; rw [h]; exact ⟨rfl, rfl, rfl⟩
theorem hb159 : HasBody Tryz.prog 159 := fun _ _ => by kernel_rfl

theorem fvalue_any (x : Int) (w : World) : Ret Tryz.prog 159 #[iv x] w (fun v w' => v = .bool (decide (-1099511627776 ≤ x ∧ x ≤ 1099511627776)) ∧ Sep w [] w') := by
 refine Ret.st (N := 9) Tryz.func159 fun R hR S0 => ?_
 refine J.c 9 [] [] [] 5 (x ≥ (-1099511627776)) (fun fk1 => ?_) fun fk1 => ?_
 ·skip
  refine J.e 5 [.bool (decide (x ≤ 1099511627776))] Tryz.func159 (hR _ _ ?_)
  exact ⟨congrArg Value.bool (by rw [Bool.eq_iff_iff]; simp; omega), S0.nil⟩
 refine J.e 5 [.bool false] Tryz.func159 (hR _ _ ?_)
 exact ⟨congrArg Value.bool (by rw [Bool.eq_iff_iff]; simp; omega), S0.nil⟩

theorem hb109 : HasBody Tryz.prog 109 := fun _ _ => by kernel_rfl

theorem flag_any (y r x sh : Int) (w : World) (hs : 0 ≤ sh ∧ sh ≤ 20) (hx : -1099511627776 ≤ x ∧ x ≤ 1099511627776) : Ret Tryz.prog 109 #[.agg #[iv y, iv r], iv x, iv sh] w (fun v w' => v = .tuple #[.agg #[iv (lagP y r x sh), iv (lagQ y r x sh)], iv (lagE y r sh)] ∧ Sep w [] w') := by
 refine Ret.st (N := 61) Tryz.func109 fun R hR S0 => ?_
 have hpw := pow_bd (k := sh.toNat) (by omega)
 have hbd : 0 ≤ r → r < 2 ^ sh.toNat → -1099511627776 ≤ y ∧ y ≤ 1099511627776 → _ := fun h1_ h2_ h3_ => lag_bd (n := x - y + r) (k := sh.toNat) (by have := pow_20 sh hs; omega)
 have hp20 := pow_20 sh hs
 refine J.nw 2 [] [] [] S0 3 [iv y, iv r] 97 fun b1 w1 S1 => ?_
 refine J.nw 0 [] [] [] S1 6 [iv 0, iv 0] 97 fun b2 w2 S2 => ?_
 have fk2 : ¬ (sh < 0) := by omega
 refine J.h 9 [] [] [] 13 (.bool (decide (sh < 0))) (.bool false) (congrArg Value.bool (decide_eq_false fk2)) ?_
 have fk4 : ¬ (sh > 20) := by omega
 refine J.h 5 [] [] [] 10 (.bool (decide (sh > 20))) (.bool false) (congrArg Value.bool (decide_eq_false fk4)) ?_
 refine J.r 2 [false] [] [] ?_
 rcases Bool.eq_false_or_eq_true (decide (-1099511627776 ≤ y ∧ y ≤ 1099511627776)) with fk5 | fk5
 rotate_left
 ·skip
  have fb3 := of_decide_eq_false fk5
  refine J.drawPlan (fun w_ => Sep w [box b2 [iv 0, iv 0] 97, box b1 [iv y, iv r] 97] w_) [(0, true), (1, true), (2, false), (3, true), (4, true), (5, true), (6, true), (7, true), (8, true), (9, true), (10, true), (11, true), (12, true), (13, true), (14, true), (15, true), (16, true)] S2 Tryz.mixed (by kernel_rfl) (planOK_of (T := [(0, some 19, 8), (1, some 20, 524288), (2, some 21, 1048576), (4, some 22, 2097152), (12, some 23, 4194304), (16, some 24, 8388616), (48, some 25, 25165824), (80, some 26, 41943040), (144, some 27, 75497472), (272, some 28, 134217728), (512, some 29, 268435464), (1536, some 30, 805306368), (512, some 31, 268435460), (4608, some 32, 2415919104), (10752, some 33, 5637144576), (16896, some 34, 8858370048), (33280, some 18, 17179869184)]) (by kernel_rfl) (by kernel_rfl)) ?_
  intro w12 S12
  refine PB.mk S12 ?_
  refine PL.take 0 19 (pv b1) (fun _ _ => by kernel_rfl) ?_
  refine PL.takeOK 1 (fun w_ S_ => OK.ldBox S_ 1 20 3 0 (iv y) (by kernel_rfl) rfl (by kernel_rfl)) rfl ?_
  refine PL.callF 21 159 #[iv y] hb159 (by kernel_rfl) (fvalue_any y _) ?_
  rintro _ w13 ⟨rfl, T3⟩
  have S13 : Sep w [box b2 [iv 0, iv 0] 97, box b1 [iv y, iv r] 97] w13 := S12.trans T3
  clear T3 S12
  refine PB.head (.bool false) (congrArg Value.bool fk5) ?_
  refine PB.mk S13 ?_
  refine PL.take 3 22 (.bool true) (fun _ _ => by kernel_rfl) ?_
  refine PL.take 4 23 (.bool true) (fun _ _ => by kernel_rfl) ?_
  refine PL.takePass 5 (some 24) (by kernel_rfl) ?_
  refine PL.takePass 6 (some 25) (by kernel_rfl) ?_
  refine PL.takePass 7 (some 26) (by kernel_rfl) ?_
  refine PL.take 8 27 (.bool true) (fun _ _ => by kernel_rfl) ?_
  refine PL.take 9 28 (.bool true) (fun _ _ => by kernel_rfl) ?_
  refine PL.takePass 10 (some 29) (by kernel_rfl) ?_
  refine PL.takePass 11 (some 30) (by kernel_rfl) ?_
  refine PL.takePass 12 (some 31) (by kernel_rfl) ?_
  refine PL.takePass 13 (some 32) (by kernel_rfl) ?_
  refine PL.takePass 14 (some 33) (by kernel_rfl) ?_
  refine PL.take 15 34 (.bool true) (fun _ _ => by kernel_rfl) ?_
  refine PL.take 16 18 (.bool true) (fun _ _ => by kernel_rfl) ?_
  refine PL.done ?_
  refine J.sb 4 [true] [] [] S13 0 rfl [iv 0, iv 0] rfl fun w14 S14 => ?_
  refine J.ez 2 [.agg #[iv 0, iv 0], iv 1] Tryz.func109 (bk (S14.nth 0 rfl) bn) (hR _ _ ?_)
  obtain ⟨e1, e2, e3⟩ := lag_no (x := x) (lagB_no (y := y) (r := r) (sh := sh) (by omega))
  exact ⟨by rw [e1, e2, e3]; rfl, S14.nil⟩
 have fb1 := of_decide_eq_true fk5
 by_cases fk6 : r < 0
 ·skip
  refine J.drawPlan (fun w_ => Sep w [box b2 [iv 0, iv 0] 97, box b1 [iv y, iv r] 97] w_) [(0, true), (1, true), (2, false), (3, true), (4, true), (5, true), (6, true), (7, true), (8, true), (9, true), (10, true), (11, true), (12, true), (13, true), (14, true), (15, true), (16, true)] S2 Tryz.mixed (by kernel_rfl) (planOK_of (T := [(0, some 19, 8), (1, some 20, 524288), (2, some 21, 1048576), (4, some 22, 2097152), (12, some 23, 4194304), (16, some 24, 8388616), (48, some 25, 25165824), (80, some 26, 41943040), (144, some 27, 75497472), (272, some 28, 134217728), (512, some 29, 268435464), (1536, some 30, 805306368), (512, some 31, 268435460), (4608, some 32, 2415919104), (10752, some 33, 5637144576), (16896, some 34, 8858370048), (33280, some 18, 17179869184)]) (by kernel_rfl) (by kernel_rfl)) ?_
  intro w3 S3
  refine PB.mk S3 ?_
  refine PL.take 0 19 (pv b1) (fun _ _ => by kernel_rfl) ?_
  refine PL.takeOK 1 (fun w_ S_ => OK.ldBox S_ 1 20 3 0 (iv y) (by kernel_rfl) rfl (by kernel_rfl)) rfl ?_
  refine PL.callF 21 159 #[iv y] hb159 (by kernel_rfl) (fvalue_any y _) ?_
  rintro _ w4 ⟨rfl, T1⟩
  have S4 : Sep w [box b2 [iv 0, iv 0] 97, box b1 [iv y, iv r] 97] w4 := S3.trans T1
  clear T1 S3
  refine PB.head (.bool true) (congrArg Value.bool fk5) ?_
  refine PB.mk S4 ?_
  refine PL.take 3 22 (.bool false) (fun _ _ => by kernel_rfl) ?_
  refine PL.take 4 23 (.bool false) (fun _ _ => by kernel_rfl) ?_
  refine PL.take 5 24 (.pointer (some ⟨b1, 1, none⟩)) (fun _ _ => by kernel_rfl) ?_
  refine PL.takeOK 6 (fun w_ S_ => OK.ldBox S_ 1 25 3 1 (iv r) (by kernel_rfl) rfl (by kernel_rfl)) rfl ?_
  refine PL.take 7 26 (.bool (decide (r < 0))) (fun _ _ => by kernel_rfl) ?_
  refine PL.head (.bool true) (congrArg Value.bool (decide_eq_true fk6)) ?_
  refine PL.take 8 27 (.bool true) (fun _ _ => by kernel_rfl) ?_
  refine PL.take 9 28 (.bool true) (fun _ _ => by kernel_rfl) ?_
  refine PL.takePass 10 (some 29) (by kernel_rfl) ?_
  refine PL.takePass 11 (some 30) (by kernel_rfl) ?_
  refine PL.takePass 12 (some 31) (by kernel_rfl) ?_
  refine PL.takePass 13 (some 32) (by kernel_rfl) ?_
  refine PL.takePass 14 (some 33) (by kernel_rfl) ?_
  refine PL.take 15 34 (.bool true) (fun _ _ => by kernel_rfl) ?_
  refine PL.take 16 18 (.bool true) (fun _ _ => by kernel_rfl) ?_
  refine PL.done ?_
  refine J.sb 4 [true] [] [] S4 0 rfl [iv 0, iv 0] rfl fun w5 S5 => ?_
  refine J.ez 2 [.agg #[iv 0, iv 0], iv 1] Tryz.func109 (bk (S5.nth 0 rfl) bn) (hR _ _ ?_)
  obtain ⟨e1, e2, e3⟩ := lag_no (x := x) (lagB_no (y := y) (r := r) (sh := sh) (by omega))
  exact ⟨by rw [e1, e2, e3]; rfl, S5.nil⟩
 refine J.drawPlan (fun w_ => Sep w [box b2 [iv 0, iv 0] 97, box b1 [iv y, iv r] 97] w_) [(0, true), (1, true), (2, false), (3, true), (4, true), (5, true), (6, true), (7, true), (8, true), (9, true), (10, true), (11, true), (12, true), (13, true), (14, true), (15, true), (16, true)] S2 Tryz.mixed (by kernel_rfl) (planOK_of (T := [(0, some 19, 8), (1, some 20, 524288), (2, some 21, 1048576), (4, some 22, 2097152), (12, some 23, 4194304), (16, some 24, 8388616), (48, some 25, 25165824), (80, some 26, 41943040), (144, some 27, 75497472), (272, some 28, 134217728), (512, some 29, 268435464), (1536, some 30, 805306368), (512, some 31, 268435460), (4608, some 32, 2415919104), (10752, some 33, 5637144576), (16896, some 34, 8858370048), (33280, some 18, 17179869184)]) (by kernel_rfl) (by kernel_rfl)) ?_
 intro w6 S6
 refine PB.mk S6 ?_
 refine PL.take 0 19 (pv b1) (fun _ _ => by kernel_rfl) ?_
 refine PL.takeOK 1 (fun w_ S_ => OK.ldBox S_ 1 20 3 0 (iv y) (by kernel_rfl) rfl (by kernel_rfl)) rfl ?_
 refine PL.callF 21 159 #[iv y] hb159 (by kernel_rfl) (fvalue_any y _) ?_
 rintro _ w7 ⟨rfl, T2⟩
 have S7 : Sep w [box b2 [iv 0, iv 0] 97, box b1 [iv y, iv r] 97] w7 := S6.trans T2
 clear T2 S6
 refine PB.head (.bool true) (congrArg Value.bool fk5) ?_
 refine PB.mk S7 ?_
 refine PL.take 3 22 (.bool false) (fun _ _ => by kernel_rfl) ?_
 refine PL.take 4 23 (.bool false) (fun _ _ => by kernel_rfl) ?_
 refine PL.take 5 24 (.pointer (some ⟨b1, 1, none⟩)) (fun _ _ => by kernel_rfl) ?_
 refine PL.takeOK 6 (fun w_ S_ => OK.ldBox S_ 1 25 3 1 (iv r) (by kernel_rfl) rfl (by kernel_rfl)) rfl ?_
 refine PL.take 7 26 (.bool (decide (r < 0))) (fun _ _ => by kernel_rfl) ?_
 refine PL.head (.bool false) (congrArg Value.bool (decide_eq_false fk6)) ?_
 refine PL.take 8 27 (.bool false) (fun _ _ => by kernel_rfl) ?_
 refine PL.take 9 28 (.bool false) (fun _ _ => by kernel_rfl) ?_
 refine PL.take 10 29 (.pointer (some ⟨b1, 1, none⟩)) (fun _ _ => by kernel_rfl) ?_
 refine PL.takeOK 11 (fun w_ S_ => OK.ldBox S_ 1 30 3 1 (iv r) (by kernel_rfl) rfl (by kernel_rfl)) rfl ?_
 refine PL.take 12 31 (iv sh) (fun _ _ => by kernel_rfl) ?_
 refine PL.takeOK 13 (fun w_ S_ => OK.shl 32 .i64 1 sh (2 ^ (sh).toNat) (by kernel_rfl) (by omega) ((by rw [lim_shl (by omega) (by omega), Int.one_mul]))) rfl ?_
 refine PL.take 14 33 (.bool (decide (r ≥ (2 ^ (sh).toNat)))) (fun _ _ => by kernel_rfl) ?_
 refine PL.take 15 34 (.bool (decide (r ≥ (2 ^ (sh).toNat)))) (fun _ _ => by kernel_rfl) ?_
 refine PL.take 16 18 (.bool (decide (r ≥ (2 ^ (sh).toNat)))) (fun _ _ => by kernel_rfl) ?_
 refine PL.done ?_
 refine J.c 0 [] [] [] 18 (r ≥ (2 ^ (sh).toNat)) (fun fk7 => ?_) fun fk7 => ?_
 ·skip
  refine J.sb 4 [true] [] [] S7 0 rfl [iv 0, iv 0] rfl fun w8 S8 => ?_
  refine J.ez 2 [.agg #[iv 0, iv 0], iv 1] Tryz.func109 (bk (S8.nth 0 rfl) bn) (hR _ _ ?_)
  obtain ⟨e1, e2, e3⟩ := lag_no (x := x) (lagB_no (y := y) (r := r) (sh := sh) (by omega))
  exact ⟨by rw [e1, e2, e3]; rfl, S8.nil⟩
 have hlb := hbd (by omega) (by omega) (by omega)
 refine J.c0 4 [false] [] [] S7 38 hb159 (fvalue_any x _) fun w9 S9 => ?_
 have fk9 : (decide (-1099511627776 ≤ x ∧ x ≤ 1099511627776)) = true := decide_eq_true hx
 refine J.h 3 [] [] [] 36 (.bool (!(decide (-1099511627776 ≤ x ∧ x ≤ 1099511627776)))) (.bool false) (congrArg Value.bool (by rw [fk9]; rfl)) ?_
 refine J.lb 7 [false] [(41, iv x)] [] S9 1 rfl 43 (iv y) ?_
 refine J.wi 1 [] [] [] 44 (x - y) ?_
 refine J.lb 1 [] [] [] S9 1 rfl 46 (iv r) ?_
 refine J.wi 1 [] [] [] 47 ((x - y) + r) ?_
 refine J.r 6 [] [(49, iv sh), (48, iv ((x - y) + r)), (8, iv ((x - y) + r))] [] ?_
 refine J.ok (OK.shr 50 .i64 ((x - y) + r) sh (((x - y) + r) / 2 ^ (sh).toNat) (by kernel_rfl) (by omega) ((shr_p (by omega)))) ?_
 refine J.r 3 [] [(9, iv (((x - y) + r) / 2 ^ (sh).toNat))] [] ?_
 refine J.drawTail S9 10 Tryz.mixed (by kernel_rfl) (by kernel_rfl) ?_
 intro w10 S10
 refine SL.r 51 (pv b1) ?_
 refine SL.lb S10 1 rfl 52 (iv y) ?_
 refine SL.r 53 (iv (((x - y) + r) / 2 ^ (sh).toNat)) ?_
 refine SL.r 54 (iv (IntKind.wrap .i64 (y + (((x - y) + r) / 2 ^ (sh).toNat)))) ?_
 refine SL.head (iv (y + (((x - y) + r) / 2 ^ (sh).toNat))) (congrArg (Value.int .i64) (IntWalk.i64_in _ (by omega))) ?_
 refine SL.r 55 (iv ((x - y) + r)) ?_
 refine SL.r 56 (iv (((x - y) + r) / 2 ^ (sh).toNat)) ?_
 refine SL.r 57 (iv sh) ?_
 refine SL.ok (by decide) (OK.shl 58 .i64 (((x - y) + r) / 2 ^ (sh).toNat) sh ((((x - y) + r) / 2 ^ (sh).toNat) * 2 ^ (sh).toNat) (by kernel_rfl) (by omega) ((shl_p (by omega) (by omega)))) ?_
 refine SL.r 59 (iv (IntKind.wrap .i64 (((x - y) + r) - ((((x - y) + r) / 2 ^ (sh).toNat) * 2 ^ (sh).toNat)))) ?_
 refine SL.head (iv (((x - y) + r) - ((((x - y) + r) / 2 ^ (sh).toNat) * 2 ^ (sh).toNat))) (congrArg (Value.int .i64) (IntWalk.i64_in _ (by omega))) ?_
 refine SL.r 60 (.agg #[iv (y + (((x - y) + r) / 2 ^ (sh).toNat)), iv (((x - y) + r) - ((((x - y) + r) / 2 ^ (sh).toNat) * 2 ^ (sh).toNat))]) ?_
 refine SL.done ?_
 refine TL.stBox S10 0 97 0 (.agg #[iv (y + (((x - y) + r) / 2 ^ (sh).toNat)), iv (((x - y) + r) - ((((x - y) + r) / 2 ^ (sh).toNat) * 2 ^ (sh).toNat))]) [iv (y + (((x - y) + r) / 2 ^ (sh).toNat)), iv (((x - y) + r) - ((((x - y) + r) / 2 ^ (sh).toNat) * 2 ^ (sh).toNat))] [box b2 [iv (y + (((x - y) + r) / 2 ^ (sh).toNat)), iv (((x - y) + r) - ((((x - y) + r) / 2 ^ (sh).toNat) * 2 ^ (sh).toNat))] 97, box b1 [iv y, iv r] 97] (by kernel_rfl) rfl (by kernel_rfl) (by kernel_rfl) rfl ?_
 intro w11 S11
 refine TL.r 7 (iv 0) ?_
 refine TL.done (by kernel_rfl) ?_
 refine J.ez 0 [.agg #[iv (y + (((x - y) + r) / 2 ^ (sh).toNat)), iv (((x - y) + r) - ((((x - y) + r) / 2 ^ (sh).toNat) * 2 ^ (sh).toNat))], iv 0] Tryz.func109 (bk (S11.nth 0 rfl) bn) (hR _ _ ?_)
 obtain ⟨e1, e2, e3⟩ := lag_yes (x := x) (lagB_yes (y := y) (r := r) (sh := sh) (by omega) (by omega) (by omega))
 exact ⟨by rw [e1, e2, e3]; rfl, S11.nil⟩

theorem hb62 : HasBody Tryz.prog 62 := fun _ _ => by kernel_rfl

theorem truth_any (b : Bool) (w : World) : Ret Tryz.prog 62 #[.bool b] w (fun v w' => v = iv (tr01 b) ∧ Sep w [] w') := by
 refine Ret.st (N := 4) Tryz.func62 fun R hR S0 => ?_
 refine J.b 9 [] [] [] 3 b (fun fk1 => ?_) fun fk1 => ?_
 ·skip
  refine J.e 5 [iv 1] Tryz.func62 (hR _ _ ?_)
  exact ⟨congrArg (Value.int .i64) (by unfold tr01; rw [fk1]; rfl), S0.nil⟩
 refine J.e 6 [iv 0] Tryz.func62 (hR _ _ ?_)
 exact ⟨congrArg (Value.int .i64) (by unfold tr01; rw [fk1]; rfl), S0.nil⟩

theorem hb111 : HasBody Tryz.prog 111 := fun _ _ => by kernel_rfl

theorem mvalue_any (t : Fxd) (x : Int) (w : World) (ht : fxdQ w t) : Ret Tryz.prog 111 #[.agg (fxdA t), iv x] w (fun v w' => v = .agg #[iv t.gBits, .bool t.gSigned, iv t.gNum, iv t.gOff, iv t.gDen, iv t.gUnit_M, iv t.gUnit_Kg, iv t.gUnit_S, iv t.gUnit_A, iv t.gUnit_K, iv (clampT t x)] ∧ Sep w [] w') := by
 refine Ret.st (N := 19) Tryz.func111 fun R hR S0 => ?_
 obtain ⟨q1, q2, q3, q4, q5, q6, q7, q8, q9, _⟩ := id ht
 refine J.nw 2 [] [] [] S0 2 (fxdC t) 75 fun b1 w1 S1 => ?_
 refine J.nw 0 [] [] [] S1 4 [iv 0, .bool false, iv 0, iv 0, iv 0, iv 0, iv 0, iv 0, iv 0, iv 0, iv 0] 82 fun b2 w2 S2 => ?_
 refine J.lb 3 [] [] [] S2 1 rfl 8 (.agg (fxdA t)) ?_
 refine J.c0 0 [] [] [] S2 9 hb160 (lim_any t _ (fxdQ_sep ht S2)) fun w3 S3 => ?_
 have hlim := lim_bd (t)
 refine J.lb 8 [] [(6, iv (limHi t)), (5, iv (limLo t))] [] S3 1 rfl 12 (.agg (fxdA t)) ?_
 refine J.h 3 [] [] [] 15 (iv (if (limLo t) > x then (limLo t) else x)) (iv (max x (limLo t))) (congrArg (Value.int .i64) (by omega)) ?_
 refine J.h 2 [] [] [] 17 (iv (if (limHi t) < (max x (limLo t)) then (limHi t) else (max x (limLo t)))) (iv (min (max x (limLo t)) (limHi t))) (congrArg (Value.int .i64) (by omega)) ?_
 refine J.sb 1 [] [] [] S3 0 rfl [iv t.gBits, .bool t.gSigned, iv t.gNum, iv t.gOff, iv t.gDen, iv t.gUnit_M, iv t.gUnit_Kg, iv t.gUnit_S, iv t.gUnit_A, iv t.gUnit_K, iv (min (max x (limLo t)) (limHi t))] rfl fun w4 S4 => ?_
 refine J.ez 1 [.agg #[iv t.gBits, .bool t.gSigned, iv t.gNum, iv t.gOff, iv t.gDen, iv t.gUnit_M, iv t.gUnit_Kg, iv t.gUnit_S, iv t.gUnit_A, iv t.gUnit_K, iv (min (max x (limLo t)) (limHi t))]] Tryz.func111 (bk (S4.nth 0 rfl) bn) (hR _ _ ?_)
 exact ⟨rfl, S4.nil⟩

end Go.Proofs.YtaoolgcddapegaaGreatDoor

namespace Go.Proofs.YtaoolgcddapegaaGreatDoor
open Go.Eng Go.RowKit
set_option linter.unusedSimpArgs false
set_option linter.unusedVariables false
set_option maxRecDepth 20000
set_option maxHeartbeats 20000000
theorem hb66 : HasBody Tryz.prog 66 := fun _ _ => by kernel_rfl

theorem arith_any (p : Prg) (i : Ins) (x y : Int) (w : World) (hp : prgQ w p) (hi : insQ w i) (hv : validP p = true) (hf : fitsI p i = true) (htp : typedP i.gOp) : Ret Tryz.prog 66 #[.agg (prgA p), .agg (insA i), iv x, iv y] w (fun v w' => v = .tuple #[iv (arV i.gOp (tyA p i.gOp i.gK) (tyB p i.gOp i.gK) (tyC p i.gOp i.gK) x y), iv (arE i.gOp (tyB p i.gOp i.gK) y)] ∧ Sep w [] w') := by
 refine Ret.st (N := 119) Tryz.func66 fun R hR S0 => ?_
 obtain ⟨q1, q2, q3, q4, q5, q6, q7, q8, q9, q10, q11, q12, q13, q14, q15, q16, q17, q18, q19, q20, q21, q22, q23, q24, q25, _⟩ := id hp
 have ql1 := q2.len_eq
 have ql2 := q5.len_eq
 have ql3 := q8.len_eq
 have ql4 := q11.len_eq
 have ql5 := q15.len_eq
 have ql6 := q18.len_eq
 have ql7 := q21.len_eq
 have ql8 := q24.len_eq
 obtain ⟨q26, q27, q28, q29, q30, _⟩ := id hi
 have hfp := formB_iff.1 (fits_form hf).1
 have hlt : p.gTypes_l.length = p.gTypes_n := by omega
 obtain ⟨hfa, hfb, hfc, hun⟩ := ar_facts hv hlt hf htp (by omega)
 refine J.nw 2 [] [] [] S0 4 (prgC p) 28 fun b1 w1 S1 => ?_
 refine J.nw 0 [] [] [] S1 5 (insC i) 48 fun b2 w2 S2 => ?_
 refine J.lb 5 [] [] [] S2 1 rfl 23 (.agg (prgA p)) ?_
 refine J.lb 0 [] [] [] S2 0 rfl 24 (.agg (insA i)) ?_
 refine J.c0 0 [] [] [] S2 25 hb110 (types_any p i _ (prgQ_sep hp S2) (insQ_sep hi S2) (by omega)) fun w3 S3 => ?_
 obtain ⟨hty1a, hty1b, hty1c⟩ := ty_q (w := w) (op := (i).gOp) (k := (i).gK) q6
 refine J.nw 5 [] [(29, .bool (tyOK p (i).gOp (i).gK)), (28, .agg (fxdA (tyC p (i).gOp (i).gK))), (27, .agg (fxdA (tyB p (i).gOp (i).gK))), (26, .agg (fxdA (tyA p (i).gOp (i).gK)))] [] S3 10 [iv 0, .bool false, iv 0, iv 0, iv 0, iv 0, iv 0, iv 0, iv 0, iv 0] 75 fun b3 w4 S4 => ?_
 refine J.nw 0 [] [] [] S4 11 [iv 0, .bool false, iv 0, iv 0, iv 0, iv 0, iv 0, iv 0, iv 0, iv 0] 75 fun b4 w5 S5 => ?_
 refine J.nw 0 [] [] [] S5 12 [iv 0, .bool false, iv 0, iv 0, iv 0, iv 0, iv 0, iv 0, iv 0, iv 0] 75 fun b5 w6 S6 => ?_
 refine J.sb 0 [] [] [] S6 2 rfl (fxdC (tyA p (i).gOp (i).gK)) rfl fun w7 S7 => ?_
 refine J.sb 0 [] [] [] S7 1 rfl (fxdC (tyB p (i).gOp (i).gK)) rfl fun w8 S8 => ?_
 refine J.sb 0 [] [] [] S8 0 rfl (fxdC (tyC p (i).gOp (i).gK)) rfl fun w9 S9 => ?_
 refine J.lb 4 [] [] [] S9 2 rfl 30 (.agg (fxdA (tyA p (i).gOp (i).gK))) ?_
 refine J.c0 1 [] [] [] S9 32 hb111 (mvalue_any (tyA p (i).gOp (i).gK) x _ (fxdQ_sep hty1a S9)) fun w10 S10 => ?_
 refine J.nw 0 [] [] [] S10 14 [iv 0, .bool false, iv 0, iv 0, iv 0, iv 0, iv 0, iv 0, iv 0, iv 0, iv 0] 82 fun b6 w11 S11 => ?_
 refine J.sb 0 [] [] [] S11 0 rfl [iv ((tyA p (i).gOp (i).gK).gBits), .bool ((tyA p (i).gOp (i).gK).gSigned), iv ((tyA p (i).gOp (i).gK).gNum), iv ((tyA p (i).gOp (i).gK).gOff), iv ((tyA p (i).gOp (i).gK).gDen), iv ((tyA p (i).gOp (i).gK).gUnit_M), iv ((tyA p (i).gOp (i).gK).gUnit_Kg), iv ((tyA p (i).gOp (i).gK).gUnit_S), iv ((tyA p (i).gOp (i).gK).gUnit_A), iv ((tyA p (i).gOp (i).gK).gUnit_K), iv (clampT (tyA p (i).gOp (i).gK) x)] rfl fun w12 S12 => ?_
 refine J.nw 3 [] [] [] S12 15 [iv 0, .bool false, iv 0, iv 0, iv 0, iv 0, iv 0, iv 0, iv 0, iv 0, iv 0] 82 fun b7 w13 S13 => ?_
 refine J.lb 9 [] [] [] S13 5 rfl 34 (iv i.gOp) ?_
 refine J.c 7 [] [] [] 100 (i.gOp = 9) (fun fk1 => ?_) fun fk1 => ?_
 ·skip
  refine J.lb 2 [true] [] [] S13 1 rfl 103 (.agg #[iv ((tyA p (i).gOp (i).gK).gBits), .bool ((tyA p (i).gOp (i).gK).gSigned), iv ((tyA p (i).gOp (i).gK).gNum), iv ((tyA p (i).gOp (i).gK).gOff), iv ((tyA p (i).gOp (i).gK).gDen), iv ((tyA p (i).gOp (i).gK).gUnit_M), iv ((tyA p (i).gOp (i).gK).gUnit_Kg), iv ((tyA p (i).gOp (i).gK).gUnit_S), iv ((tyA p (i).gOp (i).gK).gUnit_A), iv ((tyA p (i).gOp (i).gK).gUnit_K), iv (clampT (tyA p (i).gOp (i).gK) x)]) ?_
  refine J.lb 0 [] [] [] S13 2 rfl 104 (.agg (fxdA (tyC p (i).gOp (i).gK))) ?_
  refine J.c0 0 [] [] [] S13 105 hb112 (fneg_any (tyA p (i).gOp (i).gK) (clampT (tyA p (i).gOp (i).gK) x) (tyC p (i).gOp (i).gK) _ (fxdQ_sep hty1a S13) hfa (clamp_bd _ _) (fxdQ_sep hty1c S13) (hfc (by omega)) (un_neg hun (by omega))) fun w14 S14 => ?_
  refine J.sb 3 [] [(107, iv 0)] [] S14 0 rfl [iv ((tyC p (i).gOp (i).gK).gBits), .bool ((tyC p (i).gOp (i).gK).gSigned), iv ((tyC p (i).gOp (i).gK).gNum), iv ((tyC p (i).gOp (i).gK).gOff), iv ((tyC p (i).gOp (i).gK).gDen), iv ((tyC p (i).gOp (i).gK).gUnit_M), iv ((tyC p (i).gOp (i).gK).gUnit_Kg), iv ((tyC p (i).gOp (i).gK).gUnit_S), iv ((tyC p (i).gOp (i).gK).gUnit_A), iv ((tyC p (i).gOp (i).gK).gUnit_K), iv (resT (numF (tyA p (i).gOp (i).gK) (clampT (tyA p (i).gOp (i).gK) x) * (-1)) (tyA p (i).gOp (i).gK).gDen (tyC p (i).gOp (i).gK))] rfl fun w15 S15 => ?_
  refine J.lb 6 [] [(16, iv 0)] [] S15 0 rfl 117 (iv (resT (numF (tyA p (i).gOp (i).gK) (clampT (tyA p (i).gOp (i).gK) x) * (-1)) (tyA p (i).gOp (i).gK).gDen (tyC p (i).gOp (i).gK))) ?_
  refine J.e 4 [iv (resT (numF (tyA p (i).gOp (i).gK) (clampT (tyA p (i).gOp (i).gK) x) * (-1)) (tyA p (i).gOp (i).gK).gDen (tyC p (i).gOp (i).gK)), iv 0] Tryz.func66 (hR _ _ ?_)
  have e0 : arV i.gOp (tyA p i.gOp i.gK) (tyB p i.gOp i.gK) (tyC p i.gOp i.gK) x y = resT (numF (tyA p (i).gOp (i).gK) (clampT (tyA p (i).gOp (i).gK) x) * (-1)) (tyA p (i).gOp (i).gK).gDen (tyC p (i).gOp (i).gK) ∧ arE i.gOp (tyB p i.gOp i.gK) y = 0 := ar_neg (by omega)
  exact ⟨by rw [e0.1, e0.2]; rfl, S15.nil⟩
 refine J.c 6 [false] [] [] 108 (i.gOp = 10) (fun fk2 => ?_) fun fk2 => ?_
 ·skip
  refine J.lb 2 [true] [] [] S13 1 rfl 111 (.agg #[iv ((tyA p (i).gOp (i).gK).gBits), .bool ((tyA p (i).gOp (i).gK).gSigned), iv ((tyA p (i).gOp (i).gK).gNum), iv ((tyA p (i).gOp (i).gK).gOff), iv ((tyA p (i).gOp (i).gK).gDen), iv ((tyA p (i).gOp (i).gK).gUnit_M), iv ((tyA p (i).gOp (i).gK).gUnit_Kg), iv ((tyA p (i).gOp (i).gK).gUnit_S), iv ((tyA p (i).gOp (i).gK).gUnit_A), iv ((tyA p (i).gOp (i).gK).gUnit_K), iv (clampT (tyA p (i).gOp (i).gK) x)]) ?_
  refine J.lb 0 [] [] [] S13 2 rfl 112 (.agg (fxdA (tyC p (i).gOp (i).gK))) ?_
  refine J.c0 0 [] [] [] S13 113 hb113 (fconv_any (tyA p (i).gOp (i).gK) (clampT (tyA p (i).gOp (i).gK) x) (tyC p (i).gOp (i).gK) _ (fxdQ_sep hty1a S13) hfa (clamp_bd _ _) (fxdQ_sep hty1c S13) (hfc (by omega)) (un_neg hun (by omega))) fun w16 S16 => ?_
  refine J.sb 3 [] [(115, iv 0)] [] S16 0 rfl [iv ((tyC p (i).gOp (i).gK).gBits), .bool ((tyC p (i).gOp (i).gK).gSigned), iv ((tyC p (i).gOp (i).gK).gNum), iv ((tyC p (i).gOp (i).gK).gOff), iv ((tyC p (i).gOp (i).gK).gDen), iv ((tyC p (i).gOp (i).gK).gUnit_M), iv ((tyC p (i).gOp (i).gK).gUnit_Kg), iv ((tyC p (i).gOp (i).gK).gUnit_S), iv ((tyC p (i).gOp (i).gK).gUnit_A), iv ((tyC p (i).gOp (i).gK).gUnit_K), iv (resT (numF (tyA p (i).gOp (i).gK) (clampT (tyA p (i).gOp (i).gK) x) * 1) (tyA p (i).gOp (i).gK).gDen (tyC p (i).gOp (i).gK))] rfl fun w17 S17 => ?_
  refine J.lb 6 [] [(16, iv 0)] [] S17 0 rfl 117 (iv (resT (numF (tyA p (i).gOp (i).gK) (clampT (tyA p (i).gOp (i).gK) x) * 1) (tyA p (i).gOp (i).gK).gDen (tyC p (i).gOp (i).gK))) ?_
  refine J.e 4 [iv (resT (numF (tyA p (i).gOp (i).gK) (clampT (tyA p (i).gOp (i).gK) x) * 1) (tyA p (i).gOp (i).gK).gDen (tyC p (i).gOp (i).gK)), iv 0] Tryz.func66 (hR _ _ ?_)
  have e0 : arV i.gOp (tyA p i.gOp i.gK) (tyB p i.gOp i.gK) (tyC p i.gOp i.gK) x y = resT (numF (tyA p (i).gOp (i).gK) (clampT (tyA p (i).gOp (i).gK) x) * 1) (tyA p (i).gOp (i).gK).gDen (tyC p (i).gOp (i).gK) ∧ arE i.gOp (tyB p i.gOp i.gK) y = 0 := ar_conv (by omega)
  exact ⟨by rw [e0.1, e0.2]; rfl, S17.nil⟩
 refine J.lb 3 [false] [] [] S13 3 rfl 35 (.agg (fxdA (tyB p (i).gOp (i).gK))) ?_
 refine J.c0 1 [] [] [] S13 37 hb111 (mvalue_any (tyB p (i).gOp (i).gK) y _ (fxdQ_sep hty1b S13)) fun w18 S18 => ?_
 refine J.nw 0 [] [] [] S18 17 [iv 0, .bool false, iv 0, iv 0, iv 0, iv 0, iv 0, iv 0, iv 0, iv 0, iv 0] 82 fun b8 w19 S19 => ?_
 refine J.sb 0 [] [] [] S19 0 rfl [iv ((tyB p (i).gOp (i).gK).gBits), .bool ((tyB p (i).gOp (i).gK).gSigned), iv ((tyB p (i).gOp (i).gK).gNum), iv ((tyB p (i).gOp (i).gK).gOff), iv ((tyB p (i).gOp (i).gK).gDen), iv ((tyB p (i).gOp (i).gK).gUnit_M), iv ((tyB p (i).gOp (i).gK).gUnit_Kg), iv ((tyB p (i).gOp (i).gK).gUnit_S), iv ((tyB p (i).gOp (i).gK).gUnit_A), iv ((tyB p (i).gOp (i).gK).gUnit_K), iv (clampT (tyB p (i).gOp (i).gK) y)] rfl fun w20 S20 => ?_
 refine J.lb 4 [] [] [] S20 6 rfl 39 (iv i.gOp) ?_
 refine J.c 7 [] [] [] 64 (i.gOp = 5) (fun fk3 => ?_) fun fk3 => ?_
 ·skip
  refine J.lb 2 [true] [] [] S20 2 rfl 67 (.agg #[iv ((tyA p (i).gOp (i).gK).gBits), .bool ((tyA p (i).gOp (i).gK).gSigned), iv ((tyA p (i).gOp (i).gK).gNum), iv ((tyA p (i).gOp (i).gK).gOff), iv ((tyA p (i).gOp (i).gK).gDen), iv ((tyA p (i).gOp (i).gK).gUnit_M), iv ((tyA p (i).gOp (i).gK).gUnit_Kg), iv ((tyA p (i).gOp (i).gK).gUnit_S), iv ((tyA p (i).gOp (i).gK).gUnit_A), iv ((tyA p (i).gOp (i).gK).gUnit_K), iv (clampT (tyA p (i).gOp (i).gK) x)]) ?_
  refine J.lb 0 [] [] [] S20 0 rfl 68 (.agg #[iv ((tyB p (i).gOp (i).gK).gBits), .bool ((tyB p (i).gOp (i).gK).gSigned), iv ((tyB p (i).gOp (i).gK).gNum), iv ((tyB p (i).gOp (i).gK).gOff), iv ((tyB p (i).gOp (i).gK).gDen), iv ((tyB p (i).gOp (i).gK).gUnit_M), iv ((tyB p (i).gOp (i).gK).gUnit_Kg), iv ((tyB p (i).gOp (i).gK).gUnit_S), iv ((tyB p (i).gOp (i).gK).gUnit_A), iv ((tyB p (i).gOp (i).gK).gUnit_K), iv (clampT (tyB p (i).gOp (i).gK) y)]) ?_
  refine J.lb 0 [] [] [] S20 3 rfl 69 (.agg (fxdA (tyC p (i).gOp (i).gK))) ?_
  refine J.c0 0 [] [] [] S20 70 hb114 (fop1_any (tyA p (i).gOp (i).gK) (clampT (tyA p (i).gOp (i).gK) x) (tyB p (i).gOp (i).gK) (clampT (tyB p (i).gOp (i).gK) y) (tyC p (i).gOp (i).gK) _ (fxdQ_sep hty1a S20) hfa (clamp_bd _ _) (fxdQ_sep hty1b S20) (hfb (by omega)) (clamp_bd _ _) (fxdQ_sep hty1c S20) (hfc (by omega)) (by have h_ := fit_of hun (by omega); rwa [show i.gOp - 4 = 1 by omega] at h_)) fun w21 S21 => ?_
  refine J.sb 3 [] [(72, iv (opE 1 (tyB p (i).gOp (i).gK) (clampT (tyB p (i).gOp (i).gK) y)))] [] S21 1 rfl [iv ((opTy 1 (tyB p (i).gOp (i).gK) (clampT (tyB p (i).gOp (i).gK) y) (tyC p (i).gOp (i).gK)).gBits), .bool ((opTy 1 (tyB p (i).gOp (i).gK) (clampT (tyB p (i).gOp (i).gK) y) (tyC p (i).gOp (i).gK)).gSigned), iv ((opTy 1 (tyB p (i).gOp (i).gK) (clampT (tyB p (i).gOp (i).gK) y) (tyC p (i).gOp (i).gK)).gNum), iv ((opTy 1 (tyB p (i).gOp (i).gK) (clampT (tyB p (i).gOp (i).gK) y) (tyC p (i).gOp (i).gK)).gOff), iv ((opTy 1 (tyB p (i).gOp (i).gK) (clampT (tyB p (i).gOp (i).gK) y) (tyC p (i).gOp (i).gK)).gDen), iv ((opTy 1 (tyB p (i).gOp (i).gK) (clampT (tyB p (i).gOp (i).gK) y) (tyC p (i).gOp (i).gK)).gUnit_M), iv ((opTy 1 (tyB p (i).gOp (i).gK) (clampT (tyB p (i).gOp (i).gK) y) (tyC p (i).gOp (i).gK)).gUnit_Kg), iv ((opTy 1 (tyB p (i).gOp (i).gK) (clampT (tyB p (i).gOp (i).gK) y) (tyC p (i).gOp (i).gK)).gUnit_S), iv ((opTy 1 (tyB p (i).gOp (i).gK) (clampT (tyB p (i).gOp (i).gK) y) (tyC p (i).gOp (i).gK)).gUnit_A), iv ((opTy 1 (tyB p (i).gOp (i).gK) (clampT (tyB p (i).gOp (i).gK) y) (tyC p (i).gOp (i).gK)).gUnit_K), iv (fopW 1 (tyA p (i).gOp (i).gK) (clampT (tyA p (i).gOp (i).gK) x) (tyB p (i).gOp (i).gK) (clampT (tyB p (i).gOp (i).gK) y) (tyC p (i).gOp (i).gK))] rfl fun w22 S22 => ?_
  refine J.lb 7 [] [(16, iv (opE 1 (tyB p (i).gOp (i).gK) (clampT (tyB p (i).gOp (i).gK) y)))] [] S22 1 rfl 117 (iv (fopW 1 (tyA p (i).gOp (i).gK) (clampT (tyA p (i).gOp (i).gK) x) (tyB p (i).gOp (i).gK) (clampT (tyB p (i).gOp (i).gK) y) (tyC p (i).gOp (i).gK))) ?_
  refine J.e 4 [iv (fopW 1 (tyA p (i).gOp (i).gK) (clampT (tyA p (i).gOp (i).gK) x) (tyB p (i).gOp (i).gK) (clampT (tyB p (i).gOp (i).gK) y) (tyC p (i).gOp (i).gK)), iv (opE 1 (tyB p (i).gOp (i).gK) (clampT (tyB p (i).gOp (i).gK) y))] Tryz.func66 (hR _ _ ?_)
  have e0 : arV i.gOp (tyA p i.gOp i.gK) (tyB p i.gOp i.gK) (tyC p i.gOp i.gK) x y = fopW 1 (tyA p (i).gOp (i).gK) (clampT (tyA p (i).gOp (i).gK) x) (tyB p (i).gOp (i).gK) (clampT (tyB p (i).gOp (i).gK) y) (tyC p (i).gOp (i).gK) ∧ arE i.gOp (tyB p i.gOp i.gK) y = opE 1 (tyB p (i).gOp (i).gK) (clampT (tyB p (i).gOp (i).gK) y) := ar_op (k := 1) (by omega) (by omega)
  exact ⟨by rw [e0.1, e0.2]; rfl, S22.nil⟩
 refine J.c 6 [false] [] [] 73 (i.gOp = 6) (fun fk4 => ?_) fun fk4 => ?_
 ·skip
  refine J.lb 2 [true] [] [] S20 2 rfl 76 (.agg #[iv ((tyA p (i).gOp (i).gK).gBits), .bool ((tyA p (i).gOp (i).gK).gSigned), iv ((tyA p (i).gOp (i).gK).gNum), iv ((tyA p (i).gOp (i).gK).gOff), iv ((tyA p (i).gOp (i).gK).gDen), iv ((tyA p (i).gOp (i).gK).gUnit_M), iv ((tyA p (i).gOp (i).gK).gUnit_Kg), iv ((tyA p (i).gOp (i).gK).gUnit_S), iv ((tyA p (i).gOp (i).gK).gUnit_A), iv ((tyA p (i).gOp (i).gK).gUnit_K), iv (clampT (tyA p (i).gOp (i).gK) x)]) ?_
  refine J.lb 0 [] [] [] S20 0 rfl 77 (.agg #[iv ((tyB p (i).gOp (i).gK).gBits), .bool ((tyB p (i).gOp (i).gK).gSigned), iv ((tyB p (i).gOp (i).gK).gNum), iv ((tyB p (i).gOp (i).gK).gOff), iv ((tyB p (i).gOp (i).gK).gDen), iv ((tyB p (i).gOp (i).gK).gUnit_M), iv ((tyB p (i).gOp (i).gK).gUnit_Kg), iv ((tyB p (i).gOp (i).gK).gUnit_S), iv ((tyB p (i).gOp (i).gK).gUnit_A), iv ((tyB p (i).gOp (i).gK).gUnit_K), iv (clampT (tyB p (i).gOp (i).gK) y)]) ?_
  refine J.lb 0 [] [] [] S20 3 rfl 78 (.agg (fxdA (tyC p (i).gOp (i).gK))) ?_
  refine J.c0 0 [] [] [] S20 79 hb115 (fop2_any (tyA p (i).gOp (i).gK) (clampT (tyA p (i).gOp (i).gK) x) (tyB p (i).gOp (i).gK) (clampT (tyB p (i).gOp (i).gK) y) (tyC p (i).gOp (i).gK) _ (fxdQ_sep hty1a S20) hfa (clamp_bd _ _) (fxdQ_sep hty1b S20) (hfb (by omega)) (clamp_bd _ _) (fxdQ_sep hty1c S20) (hfc (by omega)) (by have h_ := fit_of hun (by omega); rwa [show i.gOp - 4 = 2 by omega] at h_)) fun w23 S23 => ?_
  refine J.sb 3 [] [(81, iv (opE 2 (tyB p (i).gOp (i).gK) (clampT (tyB p (i).gOp (i).gK) y)))] [] S23 1 rfl [iv ((opTy 2 (tyB p (i).gOp (i).gK) (clampT (tyB p (i).gOp (i).gK) y) (tyC p (i).gOp (i).gK)).gBits), .bool ((opTy 2 (tyB p (i).gOp (i).gK) (clampT (tyB p (i).gOp (i).gK) y) (tyC p (i).gOp (i).gK)).gSigned), iv ((opTy 2 (tyB p (i).gOp (i).gK) (clampT (tyB p (i).gOp (i).gK) y) (tyC p (i).gOp (i).gK)).gNum), iv ((opTy 2 (tyB p (i).gOp (i).gK) (clampT (tyB p (i).gOp (i).gK) y) (tyC p (i).gOp (i).gK)).gOff), iv ((opTy 2 (tyB p (i).gOp (i).gK) (clampT (tyB p (i).gOp (i).gK) y) (tyC p (i).gOp (i).gK)).gDen), iv ((opTy 2 (tyB p (i).gOp (i).gK) (clampT (tyB p (i).gOp (i).gK) y) (tyC p (i).gOp (i).gK)).gUnit_M), iv ((opTy 2 (tyB p (i).gOp (i).gK) (clampT (tyB p (i).gOp (i).gK) y) (tyC p (i).gOp (i).gK)).gUnit_Kg), iv ((opTy 2 (tyB p (i).gOp (i).gK) (clampT (tyB p (i).gOp (i).gK) y) (tyC p (i).gOp (i).gK)).gUnit_S), iv ((opTy 2 (tyB p (i).gOp (i).gK) (clampT (tyB p (i).gOp (i).gK) y) (tyC p (i).gOp (i).gK)).gUnit_A), iv ((opTy 2 (tyB p (i).gOp (i).gK) (clampT (tyB p (i).gOp (i).gK) y) (tyC p (i).gOp (i).gK)).gUnit_K), iv (fopW 2 (tyA p (i).gOp (i).gK) (clampT (tyA p (i).gOp (i).gK) x) (tyB p (i).gOp (i).gK) (clampT (tyB p (i).gOp (i).gK) y) (tyC p (i).gOp (i).gK))] rfl fun w24 S24 => ?_
  refine J.lb 7 [] [(16, iv (opE 2 (tyB p (i).gOp (i).gK) (clampT (tyB p (i).gOp (i).gK) y)))] [] S24 1 rfl 117 (iv (fopW 2 (tyA p (i).gOp (i).gK) (clampT (tyA p (i).gOp (i).gK) x) (tyB p (i).gOp (i).gK) (clampT (tyB p (i).gOp (i).gK) y) (tyC p (i).gOp (i).gK))) ?_
  refine J.e 4 [iv (fopW 2 (tyA p (i).gOp (i).gK) (clampT (tyA p (i).gOp (i).gK) x) (tyB p (i).gOp (i).gK) (clampT (tyB p (i).gOp (i).gK) y) (tyC p (i).gOp (i).gK)), iv (opE 2 (tyB p (i).gOp (i).gK) (clampT (tyB p (i).gOp (i).gK) y))] Tryz.func66 (hR _ _ ?_)
  have e0 : arV i.gOp (tyA p i.gOp i.gK) (tyB p i.gOp i.gK) (tyC p i.gOp i.gK) x y = fopW 2 (tyA p (i).gOp (i).gK) (clampT (tyA p (i).gOp (i).gK) x) (tyB p (i).gOp (i).gK) (clampT (tyB p (i).gOp (i).gK) y) (tyC p (i).gOp (i).gK) ∧ arE i.gOp (tyB p i.gOp i.gK) y = opE 2 (tyB p (i).gOp (i).gK) (clampT (tyB p (i).gOp (i).gK) y) := ar_op (k := 2) (by omega) (by omega)
  exact ⟨by rw [e0.1, e0.2]; rfl, S24.nil⟩
 refine J.c 6 [false] [] [] 82 (i.gOp = 7) (fun fk5 => ?_) fun fk5 => ?_
 ·skip
  refine J.lb 2 [true] [] [] S20 2 rfl 85 (.agg #[iv ((tyA p (i).gOp (i).gK).gBits), .bool ((tyA p (i).gOp (i).gK).gSigned), iv ((tyA p (i).gOp (i).gK).gNum), iv ((tyA p (i).gOp (i).gK).gOff), iv ((tyA p (i).gOp (i).gK).gDen), iv ((tyA p (i).gOp (i).gK).gUnit_M), iv ((tyA p (i).gOp (i).gK).gUnit_Kg), iv ((tyA p (i).gOp (i).gK).gUnit_S), iv ((tyA p (i).gOp (i).gK).gUnit_A), iv ((tyA p (i).gOp (i).gK).gUnit_K), iv (clampT (tyA p (i).gOp (i).gK) x)]) ?_
  refine J.lb 0 [] [] [] S20 0 rfl 86 (.agg #[iv ((tyB p (i).gOp (i).gK).gBits), .bool ((tyB p (i).gOp (i).gK).gSigned), iv ((tyB p (i).gOp (i).gK).gNum), iv ((tyB p (i).gOp (i).gK).gOff), iv ((tyB p (i).gOp (i).gK).gDen), iv ((tyB p (i).gOp (i).gK).gUnit_M), iv ((tyB p (i).gOp (i).gK).gUnit_Kg), iv ((tyB p (i).gOp (i).gK).gUnit_S), iv ((tyB p (i).gOp (i).gK).gUnit_A), iv ((tyB p (i).gOp (i).gK).gUnit_K), iv (clampT (tyB p (i).gOp (i).gK) y)]) ?_
  refine J.lb 0 [] [] [] S20 3 rfl 87 (.agg (fxdA (tyC p (i).gOp (i).gK))) ?_
  refine J.c0 0 [] [] [] S20 88 hb116 (fop3_any (tyA p (i).gOp (i).gK) (clampT (tyA p (i).gOp (i).gK) x) (tyB p (i).gOp (i).gK) (clampT (tyB p (i).gOp (i).gK) y) (tyC p (i).gOp (i).gK) _ (fxdQ_sep hty1a S20) hfa (clamp_bd _ _) (fxdQ_sep hty1b S20) (hfb (by omega)) (clamp_bd _ _) (fxdQ_sep hty1c S20) (hfc (by omega)) (by have h_ := fit_of hun (by omega); rwa [show i.gOp - 4 = 3 by omega] at h_)) fun w25 S25 => ?_
  refine J.sb 3 [] [(90, iv (opE 3 (tyB p (i).gOp (i).gK) (clampT (tyB p (i).gOp (i).gK) y)))] [] S25 1 rfl [iv ((opTy 3 (tyB p (i).gOp (i).gK) (clampT (tyB p (i).gOp (i).gK) y) (tyC p (i).gOp (i).gK)).gBits), .bool ((opTy 3 (tyB p (i).gOp (i).gK) (clampT (tyB p (i).gOp (i).gK) y) (tyC p (i).gOp (i).gK)).gSigned), iv ((opTy 3 (tyB p (i).gOp (i).gK) (clampT (tyB p (i).gOp (i).gK) y) (tyC p (i).gOp (i).gK)).gNum), iv ((opTy 3 (tyB p (i).gOp (i).gK) (clampT (tyB p (i).gOp (i).gK) y) (tyC p (i).gOp (i).gK)).gOff), iv ((opTy 3 (tyB p (i).gOp (i).gK) (clampT (tyB p (i).gOp (i).gK) y) (tyC p (i).gOp (i).gK)).gDen), iv ((opTy 3 (tyB p (i).gOp (i).gK) (clampT (tyB p (i).gOp (i).gK) y) (tyC p (i).gOp (i).gK)).gUnit_M), iv ((opTy 3 (tyB p (i).gOp (i).gK) (clampT (tyB p (i).gOp (i).gK) y) (tyC p (i).gOp (i).gK)).gUnit_Kg), iv ((opTy 3 (tyB p (i).gOp (i).gK) (clampT (tyB p (i).gOp (i).gK) y) (tyC p (i).gOp (i).gK)).gUnit_S), iv ((opTy 3 (tyB p (i).gOp (i).gK) (clampT (tyB p (i).gOp (i).gK) y) (tyC p (i).gOp (i).gK)).gUnit_A), iv ((opTy 3 (tyB p (i).gOp (i).gK) (clampT (tyB p (i).gOp (i).gK) y) (tyC p (i).gOp (i).gK)).gUnit_K), iv (fopW 3 (tyA p (i).gOp (i).gK) (clampT (tyA p (i).gOp (i).gK) x) (tyB p (i).gOp (i).gK) (clampT (tyB p (i).gOp (i).gK) y) (tyC p (i).gOp (i).gK))] rfl fun w26 S26 => ?_
  refine J.lb 7 [] [(16, iv (opE 3 (tyB p (i).gOp (i).gK) (clampT (tyB p (i).gOp (i).gK) y)))] [] S26 1 rfl 117 (iv (fopW 3 (tyA p (i).gOp (i).gK) (clampT (tyA p (i).gOp (i).gK) x) (tyB p (i).gOp (i).gK) (clampT (tyB p (i).gOp (i).gK) y) (tyC p (i).gOp (i).gK))) ?_
  refine J.e 4 [iv (fopW 3 (tyA p (i).gOp (i).gK) (clampT (tyA p (i).gOp (i).gK) x) (tyB p (i).gOp (i).gK) (clampT (tyB p (i).gOp (i).gK) y) (tyC p (i).gOp (i).gK)), iv (opE 3 (tyB p (i).gOp (i).gK) (clampT (tyB p (i).gOp (i).gK) y))] Tryz.func66 (hR _ _ ?_)
  have e0 : arV i.gOp (tyA p i.gOp i.gK) (tyB p i.gOp i.gK) (tyC p i.gOp i.gK) x y = fopW 3 (tyA p (i).gOp (i).gK) (clampT (tyA p (i).gOp (i).gK) x) (tyB p (i).gOp (i).gK) (clampT (tyB p (i).gOp (i).gK) y) (tyC p (i).gOp (i).gK) ∧ arE i.gOp (tyB p i.gOp i.gK) y = opE 3 (tyB p (i).gOp (i).gK) (clampT (tyB p (i).gOp (i).gK) y) := ar_op (k := 3) (by omega) (by omega)
  exact ⟨by rw [e0.1, e0.2]; rfl, S26.nil⟩
 refine J.c 6 [false] [] [] 91 (i.gOp = 8) (fun fk6 => ?_) fun fk6 => ?_
 ·skip
  refine J.lb 2 [true] [] [] S20 2 rfl 94 (.agg #[iv ((tyA p (i).gOp (i).gK).gBits), .bool ((tyA p (i).gOp (i).gK).gSigned), iv ((tyA p (i).gOp (i).gK).gNum), iv ((tyA p (i).gOp (i).gK).gOff), iv ((tyA p (i).gOp (i).gK).gDen), iv ((tyA p (i).gOp (i).gK).gUnit_M), iv ((tyA p (i).gOp (i).gK).gUnit_Kg), iv ((tyA p (i).gOp (i).gK).gUnit_S), iv ((tyA p (i).gOp (i).gK).gUnit_A), iv ((tyA p (i).gOp (i).gK).gUnit_K), iv (clampT (tyA p (i).gOp (i).gK) x)]) ?_
  refine J.lb 0 [] [] [] S20 0 rfl 95 (.agg #[iv ((tyB p (i).gOp (i).gK).gBits), .bool ((tyB p (i).gOp (i).gK).gSigned), iv ((tyB p (i).gOp (i).gK).gNum), iv ((tyB p (i).gOp (i).gK).gOff), iv ((tyB p (i).gOp (i).gK).gDen), iv ((tyB p (i).gOp (i).gK).gUnit_M), iv ((tyB p (i).gOp (i).gK).gUnit_Kg), iv ((tyB p (i).gOp (i).gK).gUnit_S), iv ((tyB p (i).gOp (i).gK).gUnit_A), iv ((tyB p (i).gOp (i).gK).gUnit_K), iv (clampT (tyB p (i).gOp (i).gK) y)]) ?_
  refine J.lb 0 [] [] [] S20 3 rfl 96 (.agg (fxdA (tyC p (i).gOp (i).gK))) ?_
  refine J.c0 0 [] [] [] S20 97 hb117 (fop4_any (tyA p (i).gOp (i).gK) (clampT (tyA p (i).gOp (i).gK) x) (tyB p (i).gOp (i).gK) (clampT (tyB p (i).gOp (i).gK) y) (tyC p (i).gOp (i).gK) _ (fxdQ_sep hty1a S20) hfa (clamp_bd _ _) (fxdQ_sep hty1b S20) (hfb (by omega)) (clamp_bd _ _) (fxdQ_sep hty1c S20) (hfc (by omega)) (by have h_ := fit_of hun (by omega); rwa [show i.gOp - 4 = 4 by omega] at h_)) fun w27 S27 => ?_
  refine J.sb 3 [] [(99, iv (opE 4 (tyB p (i).gOp (i).gK) (clampT (tyB p (i).gOp (i).gK) y)))] [] S27 1 rfl [iv ((opTy 4 (tyB p (i).gOp (i).gK) (clampT (tyB p (i).gOp (i).gK) y) (tyC p (i).gOp (i).gK)).gBits), .bool ((opTy 4 (tyB p (i).gOp (i).gK) (clampT (tyB p (i).gOp (i).gK) y) (tyC p (i).gOp (i).gK)).gSigned), iv ((opTy 4 (tyB p (i).gOp (i).gK) (clampT (tyB p (i).gOp (i).gK) y) (tyC p (i).gOp (i).gK)).gNum), iv ((opTy 4 (tyB p (i).gOp (i).gK) (clampT (tyB p (i).gOp (i).gK) y) (tyC p (i).gOp (i).gK)).gOff), iv ((opTy 4 (tyB p (i).gOp (i).gK) (clampT (tyB p (i).gOp (i).gK) y) (tyC p (i).gOp (i).gK)).gDen), iv ((opTy 4 (tyB p (i).gOp (i).gK) (clampT (tyB p (i).gOp (i).gK) y) (tyC p (i).gOp (i).gK)).gUnit_M), iv ((opTy 4 (tyB p (i).gOp (i).gK) (clampT (tyB p (i).gOp (i).gK) y) (tyC p (i).gOp (i).gK)).gUnit_Kg), iv ((opTy 4 (tyB p (i).gOp (i).gK) (clampT (tyB p (i).gOp (i).gK) y) (tyC p (i).gOp (i).gK)).gUnit_S), iv ((opTy 4 (tyB p (i).gOp (i).gK) (clampT (tyB p (i).gOp (i).gK) y) (tyC p (i).gOp (i).gK)).gUnit_A), iv ((opTy 4 (tyB p (i).gOp (i).gK) (clampT (tyB p (i).gOp (i).gK) y) (tyC p (i).gOp (i).gK)).gUnit_K), iv (fopW 4 (tyA p (i).gOp (i).gK) (clampT (tyA p (i).gOp (i).gK) x) (tyB p (i).gOp (i).gK) (clampT (tyB p (i).gOp (i).gK) y) (tyC p (i).gOp (i).gK))] rfl fun w28 S28 => ?_
  refine J.lb 7 [] [(16, iv (opE 4 (tyB p (i).gOp (i).gK) (clampT (tyB p (i).gOp (i).gK) y)))] [] S28 1 rfl 117 (iv (fopW 4 (tyA p (i).gOp (i).gK) (clampT (tyA p (i).gOp (i).gK) x) (tyB p (i).gOp (i).gK) (clampT (tyB p (i).gOp (i).gK) y) (tyC p (i).gOp (i).gK))) ?_
  refine J.e 4 [iv (fopW 4 (tyA p (i).gOp (i).gK) (clampT (tyA p (i).gOp (i).gK) x) (tyB p (i).gOp (i).gK) (clampT (tyB p (i).gOp (i).gK) y) (tyC p (i).gOp (i).gK)), iv (opE 4 (tyB p (i).gOp (i).gK) (clampT (tyB p (i).gOp (i).gK) y))] Tryz.func66 (hR _ _ ?_)
  have e0 : arV i.gOp (tyA p i.gOp i.gK) (tyB p i.gOp i.gK) (tyC p i.gOp i.gK) x y = fopW 4 (tyA p (i).gOp (i).gK) (clampT (tyA p (i).gOp (i).gK) x) (tyB p (i).gOp (i).gK) (clampT (tyB p (i).gOp (i).gK) y) (tyC p (i).gOp (i).gK) ∧ arE i.gOp (tyB p i.gOp i.gK) y = opE 4 (tyB p (i).gOp (i).gK) (clampT (tyB p (i).gOp (i).gK) y) := ar_op (k := 4) (by omega) (by omega)
  exact ⟨by rw [e0.1, e0.2]; rfl, S28.nil⟩
 refine J.lb 3 [false] [] [] S20 2 rfl 41 (.agg #[iv ((tyA p (i).gOp (i).gK).gBits), .bool ((tyA p (i).gOp (i).gK).gSigned), iv ((tyA p (i).gOp (i).gK).gNum), iv ((tyA p (i).gOp (i).gK).gOff), iv ((tyA p (i).gOp (i).gK).gDen), iv ((tyA p (i).gOp (i).gK).gUnit_M), iv ((tyA p (i).gOp (i).gK).gUnit_Kg), iv ((tyA p (i).gOp (i).gK).gUnit_S), iv ((tyA p (i).gOp (i).gK).gUnit_A), iv ((tyA p (i).gOp (i).gK).gUnit_K), iv (clampT (tyA p (i).gOp (i).gK) x)]) ?_
 refine J.lb 0 [] [] [] S20 0 rfl 42 (.agg #[iv ((tyB p (i).gOp (i).gK).gBits), .bool ((tyB p (i).gOp (i).gK).gSigned), iv ((tyB p (i).gOp (i).gK).gNum), iv ((tyB p (i).gOp (i).gK).gOff), iv ((tyB p (i).gOp (i).gK).gDen), iv ((tyB p (i).gOp (i).gK).gUnit_M), iv ((tyB p (i).gOp (i).gK).gUnit_Kg), iv ((tyB p (i).gOp (i).gK).gUnit_S), iv ((tyB p (i).gOp (i).gK).gUnit_A), iv ((tyB p (i).gOp (i).gK).gUnit_K), iv (clampT (tyB p (i).gOp (i).gK) y)]) ?_
 refine J.c0 0 [] [] [] S20 43 hb118 (fless_any (tyA p (i).gOp (i).gK) (clampT (tyA p (i).gOp (i).gK) x) (tyB p (i).gOp (i).gK) (clampT (tyB p (i).gOp (i).gK) y) _ (fxdQ_sep hty1a S20) hfa (clamp_bd _ _) (fxdQ_sep hty1b S20) (hfb (by omega)) (clamp_bd _ _) (un_cmp hun (by omega))) fun w29 S29 => ?_
 refine J.lb 8 [] [(18, .bool (!decide (numF (tyB p (i).gOp (i).gK) (clampT (tyB p (i).gOp (i).gK) y) * (tyA p (i).gOp (i).gK).gDen ≤ numF (tyA p (i).gOp (i).gK) (clampT (tyA p (i).gOp (i).gK) x) * (tyB p (i).gOp (i).gK).gDen)))] [] S29 0 rfl 47 (.agg #[iv ((tyB p (i).gOp (i).gK).gBits), .bool ((tyB p (i).gOp (i).gK).gSigned), iv ((tyB p (i).gOp (i).gK).gNum), iv ((tyB p (i).gOp (i).gK).gOff), iv ((tyB p (i).gOp (i).gK).gDen), iv ((tyB p (i).gOp (i).gK).gUnit_M), iv ((tyB p (i).gOp (i).gK).gUnit_Kg), iv ((tyB p (i).gOp (i).gK).gUnit_S), iv ((tyB p (i).gOp (i).gK).gUnit_A), iv ((tyB p (i).gOp (i).gK).gUnit_K), iv (clampT (tyB p (i).gOp (i).gK) y)]) ?_
 refine J.lb 0 [] [] [] S29 2 rfl 48 (.agg #[iv ((tyA p (i).gOp (i).gK).gBits), .bool ((tyA p (i).gOp (i).gK).gSigned), iv ((tyA p (i).gOp (i).gK).gNum), iv ((tyA p (i).gOp (i).gK).gOff), iv ((tyA p (i).gOp (i).gK).gDen), iv ((tyA p (i).gOp (i).gK).gUnit_M), iv ((tyA p (i).gOp (i).gK).gUnit_Kg), iv ((tyA p (i).gOp (i).gK).gUnit_S), iv ((tyA p (i).gOp (i).gK).gUnit_A), iv ((tyA p (i).gOp (i).gK).gUnit_K), iv (clampT (tyA p (i).gOp (i).gK) x)]) ?_
 refine J.c0 0 [] [] [] S29 49 hb118 (fless_any (tyB p (i).gOp (i).gK) (clampT (tyB p (i).gOp (i).gK) y) (tyA p (i).gOp (i).gK) (clampT (tyA p (i).gOp (i).gK) x) _ (fxdQ_sep hty1b S29) (hfb (by omega)) (clamp_bd _ _) (fxdQ_sep hty1a S29) hfa (clamp_bd _ _) (unEq_symm (un_cmp hun (by omega)))) fun w30 S30 => ?_
 refine J.lb 10 [] [(20, .bool (!decide (numF (tyA p (i).gOp (i).gK) (clampT (tyA p (i).gOp (i).gK) x) * (tyB p (i).gOp (i).gK).gDen ≤ numF (tyB p (i).gOp (i).gK) (clampT (tyB p (i).gOp (i).gK) y) * (tyA p (i).gOp (i).gK).gDen)))] [] S30 6 rfl 53 (iv i.gOp) ?_
 refine J.c 2 [] [] [] 54 (i.gOp = 13) (fun fk7 => ?_) fun fk7 => ?_
 ·skip
  refine J.c0 4 [true] [] [] S30 56 hb62 (truth_any (!decide (numF (tyB p (i).gOp (i).gK) (clampT (tyB p (i).gOp (i).gK) y) * (tyA p (i).gOp (i).gK).gDen ≤ numF (tyA p (i).gOp (i).gK) (clampT (tyA p (i).gOp (i).gK) x) * (tyB p (i).gOp (i).gK).gDen)) _) fun w31 S31 => ?_
  refine J.e 3 [iv (tr01 (!decide (numF (tyB p (i).gOp (i).gK) (clampT (tyB p (i).gOp (i).gK) y) * (tyA p (i).gOp (i).gK).gDen ≤ numF (tyA p (i).gOp (i).gK) (clampT (tyA p (i).gOp (i).gK) x) * (tyB p (i).gOp (i).gK).gDen))), iv 0] Tryz.func66 (hR _ _ ?_)
  have e0 : arV i.gOp (tyA p i.gOp i.gK) (tyB p i.gOp i.gK) (tyC p i.gOp i.gK) x y = tr01 (!decide (numF (tyB p (i).gOp (i).gK) (clampT (tyB p (i).gOp (i).gK) y) * (tyA p (i).gOp (i).gK).gDen ≤ numF (tyA p (i).gOp (i).gK) (clampT (tyA p (i).gOp (i).gK) x) * (tyB p (i).gOp (i).gK).gDen)) ∧ arE i.gOp (tyB p i.gOp i.gK) y = 0 := ar_less (by omega)
  exact ⟨by rw [e0.1, e0.2]; rfl, S31.nil⟩
 refine J.bn 7 [false] [] [] 59 (!decide (numF (tyB p (i).gOp (i).gK) (clampT (tyB p (i).gOp (i).gK) y) * (tyA p (i).gOp (i).gK).gDen ≤ numF (tyA p (i).gOp (i).gK) (clampT (tyA p (i).gOp (i).gK) x) * (tyB p (i).gOp (i).gK).gDen)) (fun fk8 => ?_) fun fk8 => ?_
 ·skip
  refine J.c0 3 [] [] [] S30 63 hb62 (truth_any false _) fun w32 S32 => ?_
  refine J.e 3 [iv (tr01 false), iv 0] Tryz.func66 (hR _ _ ?_)
  have e0 : arV i.gOp (tyA p i.gOp i.gK) (tyB p i.gOp i.gK) (tyC p i.gOp i.gK) x y = tr01 false ∧ arE i.gOp (tyB p i.gOp i.gK) y = 0 := ar_eq (b := false) (by omega) (by have h_ := fk8; simp at h_ ⊢; omega)
  exact ⟨by rw [e0.1, e0.2]; rfl, S32.nil⟩
 refine J.c0 3 [] [] [] S30 63 hb62 (truth_any (!(!decide (numF (tyA p (i).gOp (i).gK) (clampT (tyA p (i).gOp (i).gK) x) * (tyB p (i).gOp (i).gK).gDen ≤ numF (tyB p (i).gOp (i).gK) (clampT (tyB p (i).gOp (i).gK) y) * (tyA p (i).gOp (i).gK).gDen))) _) fun w33 S33 => ?_
 refine J.e 3 [iv (tr01 (!(!decide (numF (tyA p (i).gOp (i).gK) (clampT (tyA p (i).gOp (i).gK) x) * (tyB p (i).gOp (i).gK).gDen ≤ numF (tyB p (i).gOp (i).gK) (clampT (tyB p (i).gOp (i).gK) y) * (tyA p (i).gOp (i).gK).gDen)))), iv 0] Tryz.func66 (hR _ _ ?_)
 have e0 : arV i.gOp (tyA p i.gOp i.gK) (tyB p i.gOp i.gK) (tyC p i.gOp i.gK) x y = tr01 (!(!decide (numF (tyA p (i).gOp (i).gK) (clampT (tyA p (i).gOp (i).gK) x) * (tyB p (i).gOp (i).gK).gDen ≤ numF (tyB p (i).gOp (i).gK) (clampT (tyB p (i).gOp (i).gK) y) * (tyA p (i).gOp (i).gK).gDen))) ∧ arE i.gOp (tyB p i.gOp i.gK) y = 0 := ar_eq (b := !(!decide (numF (tyA p (i).gOp (i).gK) (clampT (tyA p (i).gOp (i).gK) x) * (tyB p (i).gOp (i).gK).gDen ≤ numF (tyB p (i).gOp (i).gK) (clampT (tyB p (i).gOp (i).gK) y) * (tyA p (i).gOp (i).gK).gDen))) (by omega) (by have h_ := fk8; simp at h_ ⊢; omega)
 exact ⟨by rw [e0.1, e0.2]; rfl, S33.nil⟩

end Go.Proofs.YtaoolgcddapegaaGreatDoor

