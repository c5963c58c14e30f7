/- Walks of functions of this seat, printed by a program over the engine. Conditions: as each theorem says. -/
import Derived.Test.YthhdaackhfffiaaDoorZxD14
namespace Go.Proofs.YthhdaackhfffiaaDoor
open Go.Eng Go.RowKit
set_option linter.unusedSimpArgs false
set_option linter.unusedVariables false
structure Ln where
  gS_a : Option Addr
  gS_n : Nat
  gS_c : Nat
  gS_l : List Tk
def lnE (x : Ln) : List Value := [.slice x.gS_a x.gS_n x.gS_c]
/-! the reference's words -/
def tlF (out : List Ln) : List Eng.Claim := out.reverse.map fun x => rowOf tkE x.gS_a x.gS_c 78 4 x.gS_l
theorem tlF_snoc (out : List Ln) (x : Ln) : tlF (out ++ [x]) = rowOf tkE x.gS_a x.gS_c 78 4 x.gS_l :: tlF out := by
  unfold tlF; rw [List.reverse_append]; rfl
theorem tl_at {w0 w : World} {L1 : List Eng.Claim} {out : List Ln} (S : Sep w0 (L1 ++ tlF out) w) (hn : ∀ x ∈ out, x.gS_n = x.gS_l.length) {i : Nat} (hi : i < out.length) : Recs tkE 4 w (out.getD i (⟨none, 0, 0, []⟩ : Ln)).gS_a (out.getD i (⟨none, 0, 0, []⟩ : Ln)).gS_n (out.getD i (⟨none, 0, 0, []⟩ : Ln)).gS_l := by
  have hm : out.getD i (⟨none, 0, 0, []⟩ : Ln) ∈ out := by rw [List.getD_eq_getElem?_getD, List.getElem?_eq_getElem hi]; exact List.getElem_mem hi
  have hc := S.all (rowOf tkE (out.getD i (⟨none, 0, 0, []⟩ : Ln)).gS_a (out.getD i (⟨none, 0, 0, []⟩ : Ln)).gS_c 78 4 (out.getD i (⟨none, 0, 0, []⟩ : Ln)).gS_l) (List.mem_append.2 (.inr (List.mem_map.2 ⟨_, List.mem_reverse.2 hm, rfl⟩)))
  exact rowOf_recs hc _ (hn _ hm).symm (fun _ => rfl) (by decide)
theorem Sep.swap {w0 w : World} {A B : List Eng.Claim} (S : Sep w0 (A ++ B) w) : Sep w0 (B ++ A) w :=
  ⟨S.below, fun c hc => S.all c (List.perm_append_comm.mem_iff.1 hc), fun c hc => S.fresh c (List.perm_append_comm.mem_iff.1 hc), (List.perm_append_comm.pairwise_iff (fun h b hb hb2 => h b hb2 hb)).1 S.apart⟩
theorem wr_end {cur : List UInt8} {cm : Bool} {l : List Tk} {ln col : Int} : wdsR [] cur cm l ln col = consL (l ++ tkOf cur ln col) [] := rfl
theorem tk_nil (ln col : Int) : tkOf [] ln col = [] := rfl
theorem cons_yes {l : List Tk} {X : List (List Tk)} (h : 0 < l.length) : consL l X = l :: X := by unfold consL; rw [if_neg (fun e => by rw [e] at h; exact absurd h (by decide))]
theorem cons_no {l : List Tk} {X : List (List Tk)} (h : ¬ 0 < l.length) : consL l X = X := by unfold consL; rw [if_pos (List.eq_nil_of_length_eq_zero (by omega))]
section
variable {s : ByteArray} {W M : List (List Tk)} {i k ln fr : Int} {cm : Bool} {l : List Tk}
theorem wr_line (h : W = M ++ wdsR ((ls s).drop i.toNat) [] cm l ln (i - fr + 1)) (h0 : 0 ≤ i) (hi : i < (s.size : Int)) (hb : byteAt s i.toNat = 10) : W = M ++ consL l (wdsR ((ls s).drop (i + 1).toNat) [] false [] (ln + 1) (i + 1 - (i + 1) + 1)) := by
  rw [h, drop_at h0 hi, wdsR, if_pos (show (ls s).getD i.toNat 0 = 10 from (byte_is (k := 10) (by omega)).2 hb), tk_nil, List.append_nil, show i + 1 - (i + 1) + 1 = 1 by omega]
theorem wr_stop (h : W = M ++ wdsR ((ls s).drop i.toNat) [] cm l ln (i - fr + 1)) (hi : (s.size : Int) ≤ i) : W = M ++ consL l [] := by
  rw [h, drop_end hi, wr_end, tk_nil, List.append_nil]
theorem wr_hash (h : W = M ++ wdsR ((ls s).drop i.toNat) [] cm l ln (i - fr + 1)) (h0 : 0 ≤ i) (hi : i < (s.size : Int)) (hb : byteAt s i.toNat = 35) : W = M ++ wdsR ((ls s).drop (i + 1).toNat) [] true l ln (i + 1 - fr + 1) := by
  rw [h, drop_at h0 hi, wdsR, if_neg (fun e : (ls s).getD i.toNat 0 = 10 => by have := (byte_is (k := 10) (by omega)).1 e; omega), show i + 1 - fr + 1 = i - fr + 1 + 1 by omega]
  cases cm with
  | true => rfl
  | false => rw [if_neg (by decide), if_pos (show (ls s).getD i.toNat 0 = 35 from (byte_is (k := 35) (by omega)).2 hb), tk_nil, List.append_nil]
theorem wr_comment (h : W = M ++ wdsR ((ls s).drop i.toNat) [] cm l ln (i - fr + 1)) (h0 : 0 ≤ i) (hi : i < (s.size : Int)) (hb : byteAt s i.toNat ≠ 10) (hc : cm = true) : W = M ++ wdsR ((ls s).drop (i + 1).toNat) [] cm l ln (i + 1 - fr + 1) := by
  subst hc
  rw [h, drop_at h0 hi, wdsR, if_neg (fun e : (ls s).getD i.toNat 0 = 10 => by have := (byte_is (k := 10) (by omega)).1 e; omega), if_pos rfl, show i + 1 - fr + 1 = i - fr + 1 + 1 by omega]
theorem wr_blank (h : W = M ++ wdsR ((ls s).drop i.toNat) [] cm l ln (i - fr + 1)) (h0 : 0 ≤ i) (hi : i < (s.size : Int)) (hb : byteAt s i.toNat = 32) : W = M ++ wdsR ((ls s).drop (i + 1).toNat) [] cm l ln (i + 1 - fr + 1) := by
  rw [h, drop_at h0 hi, wdsR, if_neg (fun e : (ls s).getD i.toNat 0 = 10 => by have := (byte_is (k := 10) (by omega)).1 e; omega), show i + 1 - fr + 1 = i - fr + 1 + 1 by omega]
  cases cm with
  | true => rfl
  | false => rw [if_neg (by decide), if_neg (fun e : (ls s).getD i.toNat 0 = 35 => by have := (byte_is (k := 35) (by omega)).1 e; omega), if_pos (show (ls s).getD i.toNat 0 = 32 from (byte_is (k := 32) (by omega)).2 hb), tk_nil, List.append_nil]
theorem wr_start (h : W = M ++ wdsR ((ls s).drop i.toNat) [] cm l ln (i - fr + 1)) (hc : cm = false) : W = M ++ wdsR ((ls s).drop i.toNat) (ls (s.extract i.toNat i.toNat)) false l ln (i - fr + 1) := by rw [ext_self, ← hc]; exact h
theorem wr_in (h : W = M ++ wdsR ((ls s).drop k.toNat) (ls (s.extract i.toNat k.toNat)) false l ln (k - fr + 1)) (h0 : 0 ≤ i) (hk : i ≤ k) (hs : k < (s.size : Int)) (hb : byteAt s k.toNat ≠ 32) (hb2 : byteAt s k.toNat ≠ 10) (hb3 : byteAt s k.toNat ≠ 35) : W = M ++ wdsR ((ls s).drop (k + 1).toNat) (ls (s.extract i.toNat (k + 1).toNat)) false l ln (k + 1 - fr + 1) := by
  rw [h, drop_at (by omega) hs, wdsR, if_neg (fun e : (ls s).getD k.toNat 0 = 10 => by have := (byte_is (k := 10) (by omega)).1 e; omega), if_neg (by decide), if_neg (fun e : (ls s).getD k.toNat 0 = 35 => by have := (byte_is (k := 35) (by omega)).1 e; omega), if_neg (fun e : (ls s).getD k.toNat 0 = 32 => by have := (byte_is (k := 32) (by omega)).1 e; omega), ext_step h0 hk hs, show k + 1 - fr + 1 = k - fr + 1 + 1 by omega]
theorem wr_out (h : W = M ++ wdsR ((ls s).drop k.toNat) (ls (s.extract i.toNat k.toNat)) false l ln (k - fr + 1)) (h0 : 0 ≤ i) (hk : i < k) (hs : k ≤ (s.size : Int)) (hb : k < (s.size : Int) → byteAt s k.toNat = 32 ∨ byteAt s k.toNat = 10 ∨ byteAt s k.toNat = 35) : W = M ++ wdsR ((ls s).drop k.toNat) [] false (l ++ [⟨0, s.extract i.toNat k.toNat, ln, i - fr + 1⟩]) ln (k - fr + 1) := by
  have e : l ++ [(⟨0, s.extract i.toNat k.toNat, ln, i - fr + 1⟩ : Tk)] = l ++ tkOf (ls (s.extract i.toNat k.toNat)) ln (k - fr + 1) := by
    rw [tk_some h0 hk hs]; congr 3; omega
  rw [h, e]
  congr 1
  generalize ls (s.extract i.toNat k.toNat) = cur
  by_cases hlt : k < (s.size : Int)
  · rw [drop_at (by omega) hlt, wdsR, wdsR]
    by_cases h1 : (ls s).getD k.toNat 0 = 10
    · rw [if_pos h1, if_pos h1, tk_nil, List.append_nil]
    · rw [if_neg h1, if_neg h1, if_neg (show ¬ (false = true) by decide), if_neg (show ¬ (false = true) by decide)]
      by_cases h2 : (ls s).getD k.toNat 0 = 35
      · rw [if_pos h2, if_pos h2, tk_nil, List.append_nil]
      · rw [if_neg h2, if_neg h2]
        have h3 : (ls s).getD k.toNat 0 = 32 := by
          rcases hb hlt with hb | hb | hb
          · exact (byte_is (k := 32) (by omega)).2 hb
          · exact absurd ((byte_is (k := 10) (by omega)).2 hb) h1
          · exact absurd ((byte_is (k := 35) (by omega)).2 hb) h2
        rw [if_pos h3, if_pos h3, tk_nil, List.append_nil]
  · rw [drop_end (by omega), wr_end, wr_end, tk_nil, List.append_nil]
end
theorem wr_first (s : ByteArray) : linesF (splitOn 10 (ls s)) 1 = ([] : List Ln).map (fun x => x.gS_l) ++ wdsR ((ls s).drop (0 : Int).toNat) [] false [] 1 (0 - 0 + 1) := (wds_text (ls s)).symm
theorem wr_add {W X : List (List Tk)} {out : List Ln} {l : List Tk} {x : Ln} (h : W = out.map (fun x => x.gS_l) ++ consL l X) (hl : 0 < l.length) (hx : x.gS_l = l) : W = (out ++ [x]).map (fun x => x.gS_l) ++ X := by
  rw [h, cons_yes hl, List.map_append, List.append_assoc]; show _ ++ (l :: X) = _ ++ ([x.gS_l] ++ X); rw [hx]; rfl
theorem wr_not {W X : List (List Tk)} {out : List Ln} {l : List Tk} (h : W = out.map (fun x => x.gS_l) ++ consL l X) (hl : ¬ 0 < l.length) : W = out.map (fun x => x.gS_l) ++ X := by rw [h, cons_no hl]
theorem wr_fin {W : List (List Tk)} {out : List Ln} (h : W = out.map (fun x => x.gS_l) ++ []) : W = out.map (fun x => x.gS_l) := by rw [h, List.append_nil]
/-! the reference's number of a word -/
theorem decV_ten {d : ByteArray} (hq : ∀ j, j < d.size → 48 ≤ byteAt d j ∧ byteAt d j ≤ 57) (n : Nat) (hn : n ≤ 13) : (decV ((ls d).take n) : Int) < 10000000000000 := by
  have h1 : ∀ c ∈ (ls d).take n, isDig c = true := by
    intro c hc
    obtain ⟨j, hj, rfl⟩ := List.mem_iff_getElem.1 hc
    rw [List.length_take] at hj
    have hl := ls_length d
    have h2 := getD_dig (d := d) (i := j) (by omega)
    rw [List.getD_eq_getElem?_getD, List.getElem?_eq_getElem (by omega), Option.getD_some] at h2
    rw [List.getElem_take, h2, Bool.and_eq_true, decide_eq_true_eq, decide_eq_true_eq]
    exact hq j (by omega)
  have h2 := decV_lt h1
  have h3 : (10 : Nat) ^ ((ls d).take n).length ≤ 10 ^ 13 := Nat.pow_le_pow_right (by omega) (by rw [List.length_take]; omega)
  omega
theorem decV_pre {d : ByteArray} {i : Nat} (hq : ∀ j, j < i → 48 ≤ byteAt d j ∧ byteAt d j ≤ 57) (n : Nat) (hn : n ≤ 13) (hi : n ≤ i) : (decV ((ls d).take n) : Int) < 10000000000000 := by
  have h1 : ∀ c ∈ (ls d).take n, isDig c = true := by
    intro c hc
    obtain ⟨j, hj, rfl⟩ := List.mem_iff_getElem.1 hc
    rw [List.length_take] at hj
    have hl := ls_length d
    have h2 := getD_dig (d := d) (i := j) (by omega)
    rw [List.getD_eq_getElem?_getD, List.getElem?_eq_getElem (by omega), Option.getD_some] at h2
    rw [List.getElem_take, h2, Bool.and_eq_true, decide_eq_true_eq, decide_eq_true_eq]
    exact hq j (by omega)
  have h2 := decV_lt h1
  have h3 : (10 : Nat) ^ ((ls d).take n).length ≤ 10 ^ 13 := Nat.pow_le_pow_right (by omega) (by rw [List.length_take]; omega)
  omega
theorem min_lt {i : Int} (h0 : 0 ≤ i) (h : i < 13) : min i.toNat 13 = i.toNat ∧ min (i + 1).toNat 13 = (i + 1).toNat := by omega
theorem min_ge {i : Int} (h : ¬ i < 13) : min i.toNat 13 = 13 ∧ min (i + 1).toNat 13 = 13 := by omega
theorem rd_step {d : ByteArray} {n i : Int} (h0 : 0 ≤ i) (hi : i < (d.size : Int)) (hm : n = (decV ((ls d).take (min i.toNat 13)) : Int)) (h : i < 13) (hb : 48 ≤ byteAt d i.toNat) : 10 * n + (byteAt d i.toNat - 48) = (decV ((ls d).take (min (i + 1).toNat 13)) : Int) := by
  have h1 := decV_take (d := d) h0 hi
  rw [(min_lt h0 h).1] at hm
  rw [(min_lt h0 h).2, h1, hm]
  have h2 := byteAt_ls d i.toNat
  omega
theorem rd_all {d : ByteArray} {n i : Int} {l : List UInt8} (hd : ls d = l) (hm : n = (decV ((ls d).take (min i.toNat 13)) : Int)) (hi : (d.size : Int) ≤ i) (hl : d.size ≤ 13) : n = (decV l : Int) := by
  have h1 := ls_length d
  rw [hm, List.take_of_length_le (by omega), hd]
/-! the reference's text -/
theorem tdiv10 {n : Int} (h : n ≤ 0) (h2 : -1000000000000000 ≤ n) : IntKind.wrap .i64 (Int.tdiv n 10) = -(-n / 10) := by
  have e : Int.tdiv n 10 = -(-n / 10) := by
    have := Int.neg_tdiv (-n) 10
    rw [Int.neg_neg, Int.tdiv_eq_ediv_of_nonneg (a := -n) (b := 10) (by omega)] at this; exact this
  rw [e]; exact IntWalk.i64_in _ (by omega)
theorem tmod10 {n : Int} (h : n ≤ 0) : Int.tmod n 10 = -(-n % 10) := by
  have := Int.neg_tmod (-n) 10
  rw [Int.neg_neg, Int.tmod_eq_emod_of_nonneg (a := -n) (b := 10) (by omega)] at this; exact this
theorem rn_round {m : Int} (h0 : 9 < m) (s : ByteArray) : Lib.decDigits m.toNat ++ ls s = Lib.decDigits (m / 10).toNat ++ ls (bytesB [48 + m % 10] ++ s) := text_round (by omega) (by omega) s
theorem rn_last {n m : Int} {s : ByteArray} (hn : 0 ≤ n) (h0 : 0 ≤ m) (h : ¬ 9 < m) (hd : Lib.decDigits n.toNat = Lib.decDigits m.toNat ++ ls s) : bytesB [48 + m] ++ s = itoaB n := by
  have h1 := hd.trans (text_last h0 (by omega) s)
  rw [show m % 10 = m by omega] at h1
  exact text_pos (by omega) rfl h1
theorem rn_neg {n : Int} (h : n < 0) : (⟨#[45]⟩ : ByteArray) ++ itoaB (0 - n) = itoaB n := by
  have h1 : Lib.decDigits (-n).toNat = ls (itoaB (0 - n)) := by
    have h2 := text_pos (n := 0 - n) (m := 0 - n) (s := ⟨(Lib.decDigits (0 - n).toNat).toArray⟩) (by omega) rfl rfl
    rw [← h2, show 0 - n = -n by omega] <;> rfl
  exact text_neg h rfl h1
theorem rn_split {n : Int} (h : n < -9) : (⟨#[45]⟩ : ByteArray) ++ itoaB (0 - -(-n / 10)) ++ itoaB (0 - -(-n % 10)) = itoaB n := by
  have h1 : Lib.decDigits (-n).toNat = ls (itoaB (0 - -(-n / 10)) ++ itoaB (0 - -(-n % 10))) := by
    have hA := text_pos (n := 0 - -(-n / 10)) (m := -n / 10) (s := ⟨(Lib.decDigits (-n / 10).toNat).toArray⟩) (by omega) (by omega) rfl
    have hB := text_pos (n := 0 - -(-n % 10)) (m := -n % 10) (s := ⟨(Lib.decDigits (-n % 10).toNat).toArray⟩) (by omega) (by omega) rfl
    have hC := text_round (m := -n) (by omega) (by omega) ByteArray.empty
    have hD := text_last (m := -n % 10) (by omega) (by omega) ByteArray.empty
    rw [empty_ls, List.append_nil] at hC hD
    rw [ls_append, ← hA, ← hB]
    show _ = Lib.decDigits (-n / 10).toNat ++ Lib.decDigits (-n % 10).toNat
    rw [hC, hD, show -n % 10 % 10 = -n % 10 by omega]
  rw [ByteArray.append_assoc]
  exact text_neg (by omega) rfl h1
def rlineD (d : Dr) (t : ByteArray) : ByteArray := ((((((((((t ++ (⟨#[97, 116, 32]⟩ : ByteArray)) ++ itoaB d.gAt) ++ (⟨#[32, 112, 101, 100, 97, 108, 32]⟩ : ByteArray)) ++ itoaB d.gPedal) ++ (⟨#[32, 98, 114, 97, 107, 101, 32]⟩ : ByteArray)) ++ itoaB d.gBrake) ++ (⟨#[32, 103, 101, 97, 114, 32]⟩ : ByteArray)) ++ itoaB d.gGear) ++ (⟨#[32, 108, 111, 97, 100, 32]⟩ : ByteArray)) ++ itoaB d.gLoad) ++ (⟨#[10]⟩ : ByteArray)
theorem rline_eq (d : Dr) (t : ByteArray) : rlineD d t = lineD d t := by
  apply ls_inj
  unfold rlineD lineD
  simp only [ls_append, List.append_assoc]
  rfl
/-! the reference's line -/
theorem chk_some {st : Option (Int × Int)} {b : Bool} {e i : Int} {x : Int × Int} (h : st = some x) : chk st b e i = some x := by subst h; rfl
theorem need_some {L : List Tk} {st : Option (Int × Int)} {k : Nat} {x : Int × Int} (h : st = some x) : needS L st k = some x := chk_some h
theorem word_some {L : List Tk} {st : Option (Int × Int)} {k : Nat} {t : ByteArray} {x : Int × Int} (h : st = some x) : wordS L st k t = some x := chk_some (need_some h)
theorem num_some {L : List Tk} {st : Option (Int × Int)} {k : Nat} {lo hi : Int} {x : Int × Int} (h : st = some x) : numS L st k lo hi = some x := chk_some (chk_some (need_some h))
section
variable {L : List Tk} {full : Bool} {bf : Int} {x : Int × Int}
theorem up11 (h : ls11 L full bf = some x) : lineS L full bf = some x := chk_some h
theorem up10 (h : ls10 L full bf = some x) : lineS L full bf = some x := up11 (num_some h)
theorem up9 (h : ls9 L full bf = some x) : lineS L full bf = some x := up10 (word_some h)
theorem up8 (h : ls8 L full bf = some x) : lineS L full bf = some x := up9 (num_some h)
theorem up7 (h : ls7 L full bf = some x) : lineS L full bf = some x := up8 (word_some h)
theorem up6 (h : ls6 L full bf = some x) : lineS L full bf = some x := up7 (num_some h)
theorem up5 (h : ls5 L full bf = some x) : lineS L full bf = some x := up6 (word_some h)
theorem up4 (h : ls4 L full bf = some x) : lineS L full bf = some x := up5 (num_some h)
theorem up3 (h : ls3 L full bf = some x) : lineS L full bf = some x := up4 (word_some h)
theorem up2 (h : ls2 L full = some x) : lineS L full bf = some x := up3 (chk_some h)
theorem up1 (h : ls1 L full = some x) : lineS L full bf = some x := up2 (num_some h)
end
theorem chk_hit {st : Option (Int × Int)} {b : Bool} {e i : Int} (h : st = none) (hb : b = true) : chk st b e i = some (e, i) := by subst h hb; rfl
theorem chk_pass {st : Option (Int × Int)} {b : Bool} {e i : Int} (h : st = none) (hb : b = false) : chk st b e i = none := by subst h hb; rfl
theorem need_hit {L : List Tk} {st : Option (Int × Int)} {k n : Nat} (hn : L.length = n) (h : st = none) (hk : n ≤ k) : needS L st k = some (4, (n : Int) - 1) := by
  subst hn; exact chk_hit h (decide_eq_true hk)
theorem need_pass {L : List Tk} {st : Option (Int × Int)} {k n : Nat} (hn : L.length = n) (h : st = none) (hk : k < n) : needS L st k = none := chk_pass h (decide_eq_false (by omega))
theorem word_hit {L : List Tk} {st : Option (Int × Int)} {k n : Nat} {t : ByteArray} (hn : L.length = n) (h : st = none) (hk : k < n) (ht : (!((wd L k).toList == t.toList)) = true) : wordS L st k t = some ((3 : Int), (k : Int)) := chk_hit (need_pass hn h hk) ht
theorem word_pass {L : List Tk} {st : Option (Int × Int)} {k n : Nat} {t : ByteArray} (hn : L.length = n) (h : st = none) (hk : k < n) (ht : (!((wd L k).toList == t.toList)) = false) : wordS L st k t = none := chk_pass (need_pass hn h hk) ht
theorem word_end {L : List Tk} {st : Option (Int × Int)} {k n : Nat} {t : ByteArray} (hn : L.length = n) (h : st = none) (hk : n ≤ k) : wordS L st k t = some (4, (n : Int) - 1) := chk_some (need_hit hn h hk)
theorem num_end {L : List Tk} {st : Option (Int × Int)} {k n : Nat} {lo hi : Int} (hn : L.length = n) (h : st = none) (hk : n ≤ k) : numS L st k lo hi = some (4, (n : Int) - 1) := chk_some (chk_some (need_hit hn h hk))
theorem num_form {L : List Tk} {st : Option (Int × Int)} {k n : Nat} {lo hi : Int} (hn : L.length = n) (h : st = none) (hk : k < n) (hg : formL (ls (wd L k)) = false) : numS L st k lo hi = some ((3 : Int), (k : Int)) := chk_some (chk_hit (need_pass hn h hk) (by rw [hg]; rfl))
theorem num_rng {L : List Tk} {st : Option (Int × Int)} {k n : Nat} {lo hi : Int} (hn : L.length = n) (h : st = none) (hk : k < n) (hg : formL (ls (wd L k)) = true) (hr : (formL (ls (wd L k)) && decide ((digL (ls (wd L k))).length ≤ 13)) = false ∨ ¬ (lo ≤ nm L k ∧ nm L k ≤ hi)) : numS L st k lo hi = some ((2 : Int), (k : Int)) := by
  refine chk_hit (chk_pass (need_pass hn h hk) (by rw [hg]; rfl)) ?_
  rw [rng_no, Bool.not_false]
  intro ⟨h1, h2⟩
  rcases hr with hr | hr
  · rw [hg, Bool.true_and, decide_eq_false_iff_not] at hr; exact hr h1
  · exact hr h2
theorem num_pass {L : List Tk} {st : Option (Int × Int)} {k n : Nat} {lo hi : Int} (hn : L.length = n) (h : st = none) (hk : k < n) (hg : formL (ls (wd L k)) = true) (hf : (formL (ls (wd L k)) && decide ((digL (ls (wd L k))).length ≤ 13)) = true) (hr : lo ≤ nm L k ∧ nm L k ≤ hi) : numS L st k lo hi = none := by
  refine chk_pass (chk_pass (need_pass hn h hk) (by rw [hg]; rfl)) ?_
  rw [hg, Bool.true_and, decide_eq_true_eq] at hf
  rw [rng_yes ⟨hf, hr⟩]; rfl
theorem ls1_hit {L : List Tk} {n : Nat} (hn : L.length = n) (hk : 0 < n) (ht : (!((wd L 0).toList == W0.toList)) = true) : ls1 L false = some (3, 0) := chk_hit (chk_pass (need_pass hn rfl hk) rfl) ht
theorem ls1_pass {L : List Tk} {n : Nat} (hn : L.length = n) (hk : 0 < n) (ht : (!((wd L 0).toList == W0.toList)) = false) : ls1 L false = none := chk_pass (chk_pass (need_pass hn rfl hk) rfl) ht
def rlV (L : List Tk) (bf : Int) : Dr := match lineS L false bf with | none => lineV L | some _ => ⟨0, 0, 0, 0, 0⟩
def rlL (L : List Tk) (bf : Int) : Int := match lineS L false bf with | none => 0 | some x => (L.getD x.2.toNat tk0).gPlace_Line
def rlC (L : List Tk) (bf : Int) : Int := match lineS L false bf with | none => 0 | some x => (L.getD x.2.toNat tk0).gPlace_Column
theorem rl_some {L : List Tk} {bf : Int} {x : Int × Int} (h : lineS L false bf = some x) : rlV L bf = ⟨0, 0, 0, 0, 0⟩ ∧ (rlL L bf = (L.getD x.2.toNat tk0).gPlace_Line ∧ rlC L bf = (L.getD x.2.toNat tk0).gPlace_Column) ∧ errO (lineS L false bf) = x.1 := by
  unfold rlV rlL rlC; rw [h]; exact ⟨rfl, ⟨rfl, rfl⟩, rfl⟩
theorem rl_none {L : List Tk} {bf : Int} (h : lineS L false bf = none) : rlV L bf = lineV L ∧ (rlL L bf = 0 ∧ rlC L bf = 0) ∧ errO (lineS L false bf) = 0 := by
  unfold rlV rlL rlC; rw [h]; exact ⟨rfl, ⟨rfl, rfl⟩, rfl⟩
theorem dec_sz (n : Nat) : decide ((n : Int) ≤ 13) = decide (n ≤ 13) := by rw [Bool.eq_iff_iff, decide_eq_true_iff, decide_eq_true_iff]; omega

theorem hb37 : HasBody Tryd.prog 37 := fun _ _ => by kernel_rfl
noncomputable def K37_0 : List Item := adv 28 [] (bodyOf Tryd.f37)
noncomputable def K37_1 : List Item := adv 8 [] K37_0
noncomputable def K37_2 : List Item := adv 11 [true] K37_1
noncomputable def K37_3 : List Item := adv 14 [true] K37_2
noncomputable def K37_4 : List Item := adv 4 [true] K37_3
noncomputable def K37_5 : List Item := adv 11 [] (popK (popK K37_4))
noncomputable def K37_6 : List Item := adv 2 [] K37_5
noncomputable def K37_7 : List Item := adv 7 [] K37_6
noncomputable def K37_8 : List Item := adv 11 [false] K37_3
noncomputable def K37_9 : List Item := adv 2 [] K37_8
noncomputable def K37_10 : List Item := adv 7 [] K37_9
noncomputable def K37_11 : List Item := adv 2 [] K37_2
noncomputable def K37_12 : List Item := adv 3 [] (popK K37_11)
noncomputable def K37_13 : List Item := adv 8 [true] K37_12
noncomputable def K37_14 : List Item := adv 4 [true] K37_13
noncomputable def K37_15 : List Item := adv 11 [] (popK (popK K37_14))
noncomputable def K37_16 : List Item := adv 2 [] K37_15
noncomputable def K37_17 : List Item := adv 7 [] K37_16
noncomputable def K37_18 : List Item := adv 11 [false] K37_13
noncomputable def K37_19 : List Item := adv 2 [] K37_18
noncomputable def K37_20 : List Item := adv 7 [] K37_19
noncomputable def K37_21 : List Item := adv 7 [false] K37_12
noncomputable def K37_22 : List Item := adv 2 [] (popK K37_21)
noncomputable def K37_23 : List Item := adv 20 [true, true] K37_22
noncomputable def K37_24 : List Item := adv 7 [false] K37_22
noncomputable def K37_25 : List Item := adv 11 [true] K37_24
noncomputable def K37_26 : List Item := adv 2 [] K37_24
noncomputable def K37_27 : List Item := adv 3 [] (popK K37_26)
noncomputable def K37_28 : List Item := adv 5 [true] K37_27
noncomputable def K37_29 : List Item := adv 10 [false] K37_27
noncomputable def K37_30 : List Item := adv 8 [] K37_29
noncomputable def K37_31 : List Item := adv 2 [] K37_30
noncomputable def K37_32 : List Item := adv 3 [] (popK K37_31)
noncomputable def K37_33 : List Item := adv 20 [false] K37_32
noncomputable def K37_34 : List Item := adv 4 [] (popK K37_33)
noncomputable def K37_35 : List Item := adv 1 [] K37_34
noncomputable def K37_36 : List Item := adv 2 [] K37_35
noncomputable def K37_37 : List Item := adv 2 [] K37_32
noncomputable def K37_38 : List Item := adv 3 [] (popK K37_37)
noncomputable def K37_39 : List Item := adv 14 [false] K37_38
noncomputable def K37_40 : List Item := adv 4 [] (popK K37_39)
noncomputable def K37_41 : List Item := adv 1 [] K37_40
noncomputable def K37_42 : List Item := adv 2 [] K37_41
noncomputable def K37_43 : List Item := adv 2 [] K37_38
noncomputable def K37_44 : List Item := adv 3 [] (popK K37_43)
noncomputable def K37_45 : List Item := adv 8 [false] K37_44
noncomputable def K37_46 : List Item := adv 4 [] (popK K37_45)
noncomputable def K37_47 : List Item := adv 1 [] K37_46
noncomputable def K37_48 : List Item := adv 2 [] K37_47
noncomputable def K37_49 : List Item := adv 6 [true] K37_44
noncomputable def K37_50 : List Item := adv 26 [false] K37_30
noncomputable def K37_51 : List Item := adv 4 [] (popK K37_50)
noncomputable def K37_52 : List Item := adv 1 [] K37_51
noncomputable def K37_53 : List Item := adv 2 [] K37_52
noncomputable def K37_54 : List Item := adv 7 [false] K37_1
set_option maxRecDepth 20000 in
set_option maxHeartbeats 20000000 in
theorem rwords_any (s : ByteArray) (w : World) (hs : s.size ≤ 1000000) : Ret Tryd.prog 37 #[.string s] w (fun v w' => ∃ a c, ∃ out : List Ln, v = .slice a out.length c ∧ linesF (splitOn 10 (ls s)) 1 = out.map (fun x => x.gS_l) ∧ ((∀ x ∈ out, x.gS_n = x.gS_l.length) ∧ (out.length : Int) ≤ s.size + 1) ∧ Sep w (rowOf lnE a c 71 1 out :: tlF out) w') := by
 have S0 := Sep.refl w
 refine Ret.named fun R hR => ?_
 refine Ret.of_J (N := 91) [(0, .string s)] Tryd.func37 rfl rfl (Nat.le_of_ble_eq_true (by kernel_rfl)) (by kernel_rfl) ?_
 refine J.run 28 K37_0 [(8, iv 0), (7, .bool false), (6, iv 0), (5, iv 1), (4, .slice none 0 0), (3, .slice none 0 0), (0, .string s)] w (by kernel_rfl) ?_
 have S1 : Sep w (tlF ([])) w := S0
 have S2 : Sep w (rowOf lnE none 0 71 1 ([]) :: tlF ([])) w := S1.nilRow 71 1
 have S3 : Sep w (rowOf tkE none 0 78 4 ([]) :: rowOf lnE none 0 71 1 ([]) :: tlF ([])) w := S2.nilRow 78 4
 have L37_1 : ∀ (mm_ : Nat) (ra : Option Addr) (rc : Nat) (out : List Ln) (la : Option Addr) (lc : Nat) (l : List Tk) (ln : Int) (fr : Int) (cm : Bool) (i : Int) (w1 : World), (0 ≤ i) → (i ≤ (s.size : Int) + 1) → (1 ≤ ln ∧ ln ≤ i + 1) → (0 ≤ fr ∧ fr ≤ i) → (((out).length : Int) ≤ i) → (((l).length : Int) ≤ i) → (∀ x ∈ out, x.gS_n = x.gS_l.length) → ((i ≤ (s.size : Int) → linesF (splitOn 10 (ls s)) 1 = (out).map (fun x => x.gS_l) ++ wdsR ((ls s).drop (i).toNat) [] cm l ln (i - fr + 1)) ∧ (i > (s.size : Int) → linesF (splitOn 10 (ls s)) 1 = (out).map (fun x => x.gS_l))) → Sep w (rowOf tkE la lc 78 4 l :: rowOf lnE ra rc 71 1 out :: tlF out) w1 → ((s.size : Int) + 1 - i).toNat = mm_ → J Tryd.prog 37 91 R K37_0 [(8, iv i), (7, .bool cm), (6, iv fr), (5, iv ln), (4, .slice la l.length lc), (3, .slice ra out.length rc), (0, .string s)] w1 := by
  intro mm1
  induction mm1 using Nat.strongRecOn with
  | _ mm1 ih1 =>
  intro ra rc out la lc l ln fr cm i w1 h0 h1 hln hfr hol hll hnn hQ S4 hm1
  refine J.run 8 K37_1 [(13, .bool (decide (i ≤ (s.size : Int)))), (8, iv i), (7, .bool cm), (6, iv fr), (5, iv ln), (4, .slice la l.length lc), (3, .slice ra out.length rc), (0, .string s)] w1 (by kernel_rfl) ?_
  by_cases fk1 : i ≤ (s.size : Int)
  ·skip
   refine J.head (.bool true) (congrArg Value.bool (decide_eq_true fk1)) ?_
   refine J.run 11 K37_2 [(18, .bool (i == (s.size : Int))), (8, iv i), (7, .bool cm), (6, iv fr), (5, iv ln), (4, .slice la l.length lc), (3, .slice ra out.length rc), (0, .string s)] w1 (by kernel_rfl) ?_
   by_cases fk2 : i = (s.size : Int)
   ·skip
    refine J.head (.bool true) (congrArg Value.bool (beq_iff_eq.2 fk2)) ?_
    refine J.run 14 K37_3 [(26, .bool (decide ((l.length : Int) > 0))), (8, iv i), (5, iv ln), (4, .slice la l.length lc), (3, .slice ra out.length rc), (0, .string s)] w1 (by kernel_rfl) ?_
    by_cases fk3 : (l.length : Int) > 0
    ·skip
     refine J.head (.bool true) (congrArg Value.bool (decide_eq_true fk3)) ?_
     refine J.run 4 K37_4 [(28, .slice la l.length lc), (27, .slice ra out.length rc), (8, iv i), (5, iv ln), (0, .string s)] w1 (by kernel_rfl) ?_
     refine J.newSlice S4 29 1 [.slice la l.length lc] 71 (by kernel_rfl) ?_
     intro b1 w2 S5
     refine J.append lnE S5 2 out (⟨la, l.length, lc, l⟩ : Ln) 30 79 (.slice none 0 0) 24 ⟨b1, 0, none⟩ 1 rfl (by kernel_rfl) (by kernel_rfl) (by kernel_rfl) (by kernel_rfl) (by decide) (box_cells (S5.nth 0 rfl)) (by kernel_rfl) (by kernel_rfl) (⟨by omega, by omega⟩) ?_
     intro ra1 rc1 w3 S6
     replace S6 : Sep w (box b1 [.slice la l.length lc] 71 :: rowOf tkE la lc 78 4 l :: rowOf lnE ra1 rc1 71 1 (out ++ [(⟨la, l.length, lc, l⟩ : Ln)]) :: tlF out) w3 := S6
     have S7 : Sep w (rowOf tkE la lc 78 4 l :: rowOf lnE ra1 rc1 71 1 (out ++ [(⟨la, l.length, lc, l⟩ : Ln)]) :: tlF out) w3 := S6.erase 0
     clear S6
     have S8 : Sep w (rowOf lnE ra1 rc1 71 1 (out ++ [(⟨la, l.length, lc, l⟩ : Ln)]) :: rowOf tkE la lc 78 4 l :: tlF out) w3 := S7.back 1
     have S9 : Sep w (rowOf lnE ra1 rc1 71 1 (out ++ [(⟨la, l.length, lc, l⟩ : Ln)]) :: tlF (out ++ [(⟨la, l.length, lc, l⟩ : Ln)])) w3 := by rw [tlF_snoc]; exact S8
     refine J.run 11 K37_5 [(32, iv (IntKind.wrap .i64 (ln + 1))), (7, .bool false), (4, .slice none 0 0), (3, .slice ra1 ((out ++ [(⟨la, l.length, lc, l⟩ : Ln)]).length) rc1), (8, iv i), (0, .string s)] w3 (by kernel_rfl) ?_
     refine J.head (iv (ln + 1)) (congrArg (Value.int .i64) (IntWalk.i64_in _ (by omega))) ?_
     refine J.run 2 K37_6 [(34, iv (IntKind.wrap .i64 (i + 1))), (32, iv (ln + 1)), (7, .bool false), (4, .slice none 0 0), (3, .slice ra1 ((out ++ [(⟨la, l.length, lc, l⟩ : Ln)]).length) rc1), (8, iv i), (0, .string s)] w3 (by kernel_rfl) ?_
     refine J.head (iv (i + 1)) (congrArg (Value.int .i64) (IntWalk.i64_in _ (by omega))) ?_
     refine J.run 7 K37_7 [(36, iv (IntKind.wrap .i64 (i + 1))), (6, iv (i + 1)), (5, iv (ln + 1)), (7, .bool false), (4, .slice none 0 0), (3, .slice ra1 ((out ++ [(⟨la, l.length, lc, l⟩ : Ln)]).length) rc1), (0, .string s)] w3 (by kernel_rfl) ?_
     refine J.head (iv (i + 1)) (congrArg (Value.int .i64) (IntWalk.i64_in _ (by omega))) ?_
     refine J.run 4 K37_0 [(8, iv (i + 1)), (6, iv (i + 1)), (5, iv (ln + 1)), (7, .bool false), (4, .slice none 0 0), (3, .slice ra1 ((out ++ [(⟨la, l.length, lc, l⟩ : Ln)]).length) rc1), (0, .string s)] w3 (by kernel_rfl) ?_
     have S10 : Sep w (rowOf tkE none 0 78 4 ([]) :: rowOf lnE ra1 rc1 71 1 (out ++ [(⟨la, l.length, lc, l⟩ : Ln)]) :: tlF (out ++ [(⟨la, l.length, lc, l⟩ : Ln)])) w3 := S9.nilRow 78 4
     refine J.run 0 K37_0 [(8, iv (i + 1)), (7, .bool false), (6, iv (i + 1)), (5, iv (ln + 1)), (4, .slice none 0 0), (3, .slice ra1 ((out ++ [(⟨la, l.length, lc, l⟩ : Ln)]).length) rc1), (0, .string s)] w3 (by kernel_rfl) ?_
     exact ih1 _ (show ((s.size : Int) + 1 - (i + 1)).toNat < mm1 from by omega) ra1 rc1 (out ++ [(⟨la, l.length, lc, l⟩ : Ln)]) none 0 ([]) (ln + 1) (i + 1) false (i + 1) w3 (by omega) (by omega) (by omega) (by omega) (by (try rw [List.length_append, List.length_singleton]); omega) (by (try rw [List.length_append, List.length_singleton]); (try rw [List.length_nil]); omega) (by intro x hx; rcases List.mem_append.1 hx with hx | hx; (exact hnn x hx); (rw [List.mem_singleton.1 hx])) (⟨fun h_ => by omega, fun _ => wr_fin (wr_add (wr_stop (hQ.1 (by omega)) (by omega)) (by omega) rfl)⟩) S10 rfl
    ·skip
     refine J.head (.bool false) (congrArg Value.bool (decide_eq_false fk3)) ?_
     refine J.run 11 K37_8 [(32, iv (IntKind.wrap .i64 (ln + 1))), (7, .bool false), (4, .slice none 0 0), (8, iv i), (3, .slice ra out.length rc), (0, .string s)] w1 (by kernel_rfl) ?_
     refine J.head (iv (ln + 1)) (congrArg (Value.int .i64) (IntWalk.i64_in _ (by omega))) ?_
     refine J.run 2 K37_9 [(34, iv (IntKind.wrap .i64 (i + 1))), (32, iv (ln + 1)), (7, .bool false), (4, .slice none 0 0), (8, iv i), (3, .slice ra out.length rc), (0, .string s)] w1 (by kernel_rfl) ?_
     refine J.head (iv (i + 1)) (congrArg (Value.int .i64) (IntWalk.i64_in _ (by omega))) ?_
     refine J.run 7 K37_10 [(36, iv (IntKind.wrap .i64 (i + 1))), (6, iv (i + 1)), (5, iv (ln + 1)), (7, .bool false), (4, .slice none 0 0), (3, .slice ra out.length rc), (0, .string s)] w1 (by kernel_rfl) ?_
     refine J.head (iv (i + 1)) (congrArg (Value.int .i64) (IntWalk.i64_in _ (by omega))) ?_
     refine J.run 4 K37_0 [(8, iv (i + 1)), (6, iv (i + 1)), (5, iv (ln + 1)), (7, .bool false), (4, .slice none 0 0), (3, .slice ra out.length rc), (0, .string s)] w1 (by kernel_rfl) ?_
     have S11 : Sep w (rowOf lnE ra rc 71 1 out :: tlF out) w1 := S4.erase 0
     clear S4
     have S12 : Sep w (rowOf tkE none 0 78 4 ([]) :: rowOf lnE ra rc 71 1 out :: tlF out) w1 := S11.nilRow 78 4
     refine J.run 0 K37_0 [(8, iv (i + 1)), (7, .bool false), (6, iv (i + 1)), (5, iv (ln + 1)), (4, .slice none 0 0), (3, .slice ra out.length rc), (0, .string s)] w1 (by kernel_rfl) ?_
     exact ih1 _ (show ((s.size : Int) + 1 - (i + 1)).toNat < mm1 from by omega) ra rc out none 0 ([]) (ln + 1) (i + 1) false (i + 1) w1 (by omega) (by omega) (by omega) (by omega) (by (try rw [List.length_append, List.length_singleton]); omega) (by (try rw [List.length_append, List.length_singleton]); (try rw [List.length_nil]); omega) (hnn) (⟨fun h_ => by omega, fun _ => wr_fin (wr_not (wr_stop (hQ.1 (by omega)) (by omega)) (by omega))⟩) S12 rfl
   ·skip
    refine J.head (.bool false) (congrArg Value.bool (beq_eq_false_iff_ne.2 fk2)) ?_
    refine J.run 2 K37_11 [(20, iv i), (19, .string s), (18, .bool false), (8, iv i), (7, .bool cm), (6, iv fr), (5, iv ln), (4, .slice la l.length lc), (3, .slice ra out.length rc), (0, .string s)] w1 (by kernel_rfl) ?_
    have := byteAt_bounds s (i).toNat
    refine J.ok (OK.byte 21 9 s i (byteAt s (i).toNat) (by kernel_rfl) (by kernel_rfl) (by omega) (by omega) (rfl)) ?_
    refine J.run 3 K37_12 [(23, .bool ((byteAt s (i).toNat) == 10)), (8, iv i), (7, .bool cm), (6, iv fr), (5, iv ln), (4, .slice la l.length lc), (3, .slice ra out.length rc), (0, .string s)] w1 (by kernel_rfl) ?_
    by_cases fk4 : (byteAt s (i).toNat) = 10
    ·skip
     refine J.head (.bool true) (congrArg Value.bool (beq_iff_eq.2 fk4)) ?_
     refine J.run 8 K37_13 [(26, .bool (decide ((l.length : Int) > 0))), (8, iv i), (5, iv ln), (4, .slice la l.length lc), (3, .slice ra out.length rc), (0, .string s)] w1 (by kernel_rfl) ?_
     by_cases fk5 : (l.length : Int) > 0
     ·skip
      refine J.head (.bool true) (congrArg Value.bool (decide_eq_true fk5)) ?_
      refine J.run 4 K37_14 [(28, .slice la l.length lc), (27, .slice ra out.length rc), (8, iv i), (5, iv ln), (0, .string s)] w1 (by kernel_rfl) ?_
      refine J.newSlice S4 29 1 [.slice la l.length lc] 71 (by kernel_rfl) ?_
      intro b2 w4 S13
      refine J.append lnE S13 2 out (⟨la, l.length, lc, l⟩ : Ln) 30 79 (.slice none 0 0) 24 ⟨b2, 0, none⟩ 1 rfl (by kernel_rfl) (by kernel_rfl) (by kernel_rfl) (by kernel_rfl) (by decide) (box_cells (S13.nth 0 rfl)) (by kernel_rfl) (by kernel_rfl) (⟨by omega, by omega⟩) ?_
      intro ra2 rc2 w5 S14
      replace S14 : Sep w (box b2 [.slice la l.length lc] 71 :: rowOf tkE la lc 78 4 l :: rowOf lnE ra2 rc2 71 1 (out ++ [(⟨la, l.length, lc, l⟩ : Ln)]) :: tlF out) w5 := S14
      have S15 : Sep w (rowOf tkE la lc 78 4 l :: rowOf lnE ra2 rc2 71 1 (out ++ [(⟨la, l.length, lc, l⟩ : Ln)]) :: tlF out) w5 := S14.erase 0
      clear S14
      have S16 : Sep w (rowOf lnE ra2 rc2 71 1 (out ++ [(⟨la, l.length, lc, l⟩ : Ln)]) :: rowOf tkE la lc 78 4 l :: tlF out) w5 := S15.back 1
      have S17 : Sep w (rowOf lnE ra2 rc2 71 1 (out ++ [(⟨la, l.length, lc, l⟩ : Ln)]) :: tlF (out ++ [(⟨la, l.length, lc, l⟩ : Ln)])) w5 := by rw [tlF_snoc]; exact S16
      refine J.run 11 K37_15 [(32, iv (IntKind.wrap .i64 (ln + 1))), (7, .bool false), (4, .slice none 0 0), (3, .slice ra2 ((out ++ [(⟨la, l.length, lc, l⟩ : Ln)]).length) rc2), (8, iv i), (0, .string s)] w5 (by kernel_rfl) ?_
      refine J.head (iv (ln + 1)) (congrArg (Value.int .i64) (IntWalk.i64_in _ (by omega))) ?_
      refine J.run 2 K37_16 [(34, iv (IntKind.wrap .i64 (i + 1))), (32, iv (ln + 1)), (7, .bool false), (4, .slice none 0 0), (3, .slice ra2 ((out ++ [(⟨la, l.length, lc, l⟩ : Ln)]).length) rc2), (8, iv i), (0, .string s)] w5 (by kernel_rfl) ?_
      refine J.head (iv (i + 1)) (congrArg (Value.int .i64) (IntWalk.i64_in _ (by omega))) ?_
      refine J.run 7 K37_17 [(36, iv (IntKind.wrap .i64 (i + 1))), (6, iv (i + 1)), (5, iv (ln + 1)), (7, .bool false), (4, .slice none 0 0), (3, .slice ra2 ((out ++ [(⟨la, l.length, lc, l⟩ : Ln)]).length) rc2), (0, .string s)] w5 (by kernel_rfl) ?_
      refine J.head (iv (i + 1)) (congrArg (Value.int .i64) (IntWalk.i64_in _ (by omega))) ?_
      refine J.run 4 K37_0 [(8, iv (i + 1)), (6, iv (i + 1)), (5, iv (ln + 1)), (7, .bool false), (4, .slice none 0 0), (3, .slice ra2 ((out ++ [(⟨la, l.length, lc, l⟩ : Ln)]).length) rc2), (0, .string s)] w5 (by kernel_rfl) ?_
      have S18 : Sep w (rowOf tkE none 0 78 4 ([]) :: rowOf lnE ra2 rc2 71 1 (out ++ [(⟨la, l.length, lc, l⟩ : Ln)]) :: tlF (out ++ [(⟨la, l.length, lc, l⟩ : Ln)])) w5 := S17.nilRow 78 4
      refine J.run 0 K37_0 [(8, iv (i + 1)), (7, .bool false), (6, iv (i + 1)), (5, iv (ln + 1)), (4, .slice none 0 0), (3, .slice ra2 ((out ++ [(⟨la, l.length, lc, l⟩ : Ln)]).length) rc2), (0, .string s)] w5 (by kernel_rfl) ?_
      exact ih1 _ (show ((s.size : Int) + 1 - (i + 1)).toNat < mm1 from by omega) ra2 rc2 (out ++ [(⟨la, l.length, lc, l⟩ : Ln)]) none 0 ([]) (ln + 1) (i + 1) false (i + 1) w5 (by omega) (by omega) (by omega) (by omega) (by (try rw [List.length_append, List.length_singleton]); omega) (by (try rw [List.length_append, List.length_singleton]); (try rw [List.length_nil]); omega) (by intro x hx; rcases List.mem_append.1 hx with hx | hx; (exact hnn x hx); (rw [List.mem_singleton.1 hx])) (⟨fun _ => wr_add (wr_line (hQ.1 (by omega)) h0 (by omega) (by omega)) (by omega) rfl, fun h_ => by omega⟩) S18 rfl
     ·skip
      refine J.head (.bool false) (congrArg Value.bool (decide_eq_false fk5)) ?_
      refine J.run 11 K37_18 [(32, iv (IntKind.wrap .i64 (ln + 1))), (7, .bool false), (4, .slice none 0 0), (8, iv i), (3, .slice ra out.length rc), (0, .string s)] w1 (by kernel_rfl) ?_
      refine J.head (iv (ln + 1)) (congrArg (Value.int .i64) (IntWalk.i64_in _ (by omega))) ?_
      refine J.run 2 K37_19 [(34, iv (IntKind.wrap .i64 (i + 1))), (32, iv (ln + 1)), (7, .bool false), (4, .slice none 0 0), (8, iv i), (3, .slice ra out.length rc), (0, .string s)] w1 (by kernel_rfl) ?_
      refine J.head (iv (i + 1)) (congrArg (Value.int .i64) (IntWalk.i64_in _ (by omega))) ?_
      refine J.run 7 K37_20 [(36, iv (IntKind.wrap .i64 (i + 1))), (6, iv (i + 1)), (5, iv (ln + 1)), (7, .bool false), (4, .slice none 0 0), (3, .slice ra out.length rc), (0, .string s)] w1 (by kernel_rfl) ?_
      refine J.head (iv (i + 1)) (congrArg (Value.int .i64) (IntWalk.i64_in _ (by omega))) ?_
      refine J.run 4 K37_0 [(8, iv (i + 1)), (6, iv (i + 1)), (5, iv (ln + 1)), (7, .bool false), (4, .slice none 0 0), (3, .slice ra out.length rc), (0, .string s)] w1 (by kernel_rfl) ?_
      have S19 : Sep w (rowOf lnE ra rc 71 1 out :: tlF out) w1 := S4.erase 0
      clear S4
      have S20 : Sep w (rowOf tkE none 0 78 4 ([]) :: rowOf lnE ra rc 71 1 out :: tlF out) w1 := S19.nilRow 78 4
      refine J.run 0 K37_0 [(8, iv (i + 1)), (7, .bool false), (6, iv (i + 1)), (5, iv (ln + 1)), (4, .slice none 0 0), (3, .slice ra out.length rc), (0, .string s)] w1 (by kernel_rfl) ?_
      exact ih1 _ (show ((s.size : Int) + 1 - (i + 1)).toNat < mm1 from by omega) ra rc out none 0 ([]) (ln + 1) (i + 1) false (i + 1) w1 (by omega) (by omega) (by omega) (by omega) (by (try rw [List.length_append, List.length_singleton]); omega) (by (try rw [List.length_append, List.length_singleton]); (try rw [List.length_nil]); omega) (hnn) (⟨fun _ => wr_not (wr_line (hQ.1 (by omega)) h0 (by omega) (by omega)) (by omega), fun h_ => by omega⟩) S20 rfl
    ·skip
     refine J.head (.bool false) (congrArg Value.bool (beq_eq_false_iff_ne.2 fk4)) ?_
     refine J.run 7 K37_21 [(38, iv i), (37, .string s), (8, iv i), (7, .bool cm), (6, iv fr), (5, iv ln), (4, .slice la l.length lc), (3, .slice ra out.length rc), (0, .string s)] w1 (by kernel_rfl) ?_
     have := byteAt_bounds s (i).toNat
     refine J.ok (OK.byte 39 9 s i (byteAt s (i).toNat) (by kernel_rfl) (by kernel_rfl) (by omega) (by omega) (rfl)) ?_
     refine J.run 2 K37_22 [(40, .bool ((byteAt s (i).toNat) == 35)), (8, iv i), (7, .bool cm), (6, iv fr), (5, iv ln), (4, .slice la l.length lc), (3, .slice ra out.length rc), (0, .string s)] w1 (by kernel_rfl) ?_
     by_cases fk6 : (byteAt s (i).toNat) = 35
     ·skip
      refine J.head (.bool true) (congrArg Value.bool (beq_iff_eq.2 fk6)) ?_
      refine J.run 20 K37_23 [(49, iv (IntKind.wrap .i64 (i + 1))), (7, .bool true), (6, iv fr), (5, iv ln), (4, .slice la l.length lc), (3, .slice ra out.length rc), (0, .string s)] w1 (by kernel_rfl) ?_
      refine J.head (iv (i + 1)) (congrArg (Value.int .i64) (IntWalk.i64_in _ (by omega))) ?_
      refine J.run 4 K37_0 [(8, iv (i + 1)), (7, .bool true), (6, iv fr), (5, iv ln), (4, .slice la l.length lc), (3, .slice ra out.length rc), (0, .string s)] w1 (by kernel_rfl) ?_
      refine J.run 0 K37_0 [(8, iv (i + 1)), (7, .bool true), (6, iv fr), (5, iv ln), (4, .slice la l.length lc), (3, .slice ra out.length rc), (0, .string s)] w1 (by kernel_rfl) ?_
      exact ih1 _ (show ((s.size : Int) + 1 - (i + 1)).toNat < mm1 from by omega) ra rc out la lc l ln fr true (i + 1) w1 (by omega) (by omega) (by omega) (by omega) (by (try rw [List.length_append, List.length_singleton]); omega) (by (try rw [List.length_append, List.length_singleton]); (try rw [List.length_nil]); omega) (hnn) (⟨fun _ => wr_hash (hQ.1 (by omega)) h0 (by omega) (by omega), fun h_ => by omega⟩) S4 rfl
     ·skip
      refine J.head (.bool false) (congrArg Value.bool (beq_eq_false_iff_ne.2 fk6)) ?_
      refine J.run 7 K37_24 [(42, .bool cm), (8, iv i), (7, .bool cm), (6, iv fr), (5, iv ln), (4, .slice la l.length lc), (3, .slice ra out.length rc), (0, .string s)] w1 (by kernel_rfl) ?_
      rcases Bool.eq_false_or_eq_true cm with fk7 | fk7
      ·skip
       refine J.head (.bool true) (congrArg Value.bool fk7) ?_
       refine J.run 11 K37_25 [(49, iv (IntKind.wrap .i64 (i + 1))), (7, .bool cm), (6, iv fr), (5, iv ln), (4, .slice la l.length lc), (3, .slice ra out.length rc), (0, .string s)] w1 (by kernel_rfl) ?_
       refine J.head (iv (i + 1)) (congrArg (Value.int .i64) (IntWalk.i64_in _ (by omega))) ?_
       refine J.run 4 K37_0 [(8, iv (i + 1)), (7, .bool cm), (6, iv fr), (5, iv ln), (4, .slice la l.length lc), (3, .slice ra out.length rc), (0, .string s)] w1 (by kernel_rfl) ?_
       refine J.run 0 K37_0 [(8, iv (i + 1)), (7, .bool cm), (6, iv fr), (5, iv ln), (4, .slice la l.length lc), (3, .slice ra out.length rc), (0, .string s)] w1 (by kernel_rfl) ?_
       exact ih1 _ (show ((s.size : Int) + 1 - (i + 1)).toNat < mm1 from by omega) ra rc out la lc l ln fr cm (i + 1) w1 (by omega) (by omega) (by omega) (by omega) (by (try rw [List.length_append, List.length_singleton]); omega) (by (try rw [List.length_append, List.length_singleton]); (try rw [List.length_nil]); omega) (hnn) (⟨fun _ => wr_comment (hQ.1 (by omega)) h0 (by omega) (by omega) fk7, fun h_ => by omega⟩) S4 rfl
      ·skip
       refine J.head (.bool false) (congrArg Value.bool fk7) ?_
       refine J.run 2 K37_26 [(44, iv i), (43, .string s), (42, .bool false), (8, iv i), (7, .bool cm), (6, iv fr), (5, iv ln), (4, .slice la l.length lc), (3, .slice ra out.length rc), (0, .string s)] w1 (by kernel_rfl) ?_
       have := byteAt_bounds s (i).toNat
       refine J.ok (OK.byte 45 9 s i (byteAt s (i).toNat) (by kernel_rfl) (by kernel_rfl) (by omega) (by omega) (rfl)) ?_
       refine J.run 3 K37_27 [(47, .bool ((byteAt s (i).toNat) == 32)), (8, iv i), (7, .bool cm), (6, iv fr), (5, iv ln), (4, .slice la l.length lc), (3, .slice ra out.length rc), (0, .string s)] w1 (by kernel_rfl) ?_
       by_cases fk8 : (byteAt s (i).toNat) = 32
       ·skip
        refine J.head (.bool true) (congrArg Value.bool (beq_iff_eq.2 fk8)) ?_
        refine J.run 5 K37_28 [(49, iv (IntKind.wrap .i64 (i + 1))), (7, .bool cm), (6, iv fr), (5, iv ln), (4, .slice la l.length lc), (3, .slice ra out.length rc), (0, .string s)] w1 (by kernel_rfl) ?_
        refine J.head (iv (i + 1)) (congrArg (Value.int .i64) (IntWalk.i64_in _ (by omega))) ?_
        refine J.run 4 K37_0 [(8, iv (i + 1)), (7, .bool cm), (6, iv fr), (5, iv ln), (4, .slice la l.length lc), (3, .slice ra out.length rc), (0, .string s)] w1 (by kernel_rfl) ?_
        refine J.run 0 K37_0 [(8, iv (i + 1)), (7, .bool cm), (6, iv fr), (5, iv ln), (4, .slice la l.length lc), (3, .slice ra out.length rc), (0, .string s)] w1 (by kernel_rfl) ?_
        exact ih1 _ (show ((s.size : Int) + 1 - (i + 1)).toNat < mm1 from by omega) ra rc out la lc l ln fr cm (i + 1) w1 (by omega) (by omega) (by omega) (by omega) (by (try rw [List.length_append, List.length_singleton]); omega) (by (try rw [List.length_append, List.length_singleton]); (try rw [List.length_nil]); omega) (hnn) (⟨fun _ => wr_blank (hQ.1 (by omega)) h0 (by omega) (by omega), fun h_ => by omega⟩) S4 rfl
       ·skip
        refine J.head (.bool false) (congrArg Value.bool (beq_eq_false_iff_ne.2 fk8)) ?_
        refine J.run 10 K37_29 [(9, iv i), (8, iv i), (7, .bool cm), (6, iv fr), (5, iv ln), (4, .slice la l.length lc), (3, .slice ra out.length rc), (0, .string s)] w1 (by kernel_rfl) ?_
        have L37_2 : ∀ (mm_ : Nat) (k : Int) (w6 : World), (i ≤ k) → (k ≤ (s.size : Int)) → (i < k ∨ (k = i ∧ i < (s.size : Int) ∧ byteAt s (k).toNat ≠ 32 ∧ byteAt s (k).toNat ≠ 10 ∧ byteAt s (k).toNat ≠ 35)) → (linesF (splitOn 10 (ls s)) 1 = (out).map (fun x => x.gS_l) ++ wdsR ((ls s).drop (k).toNat) (ls (s.extract (i).toNat (k).toNat)) false l ln (k - fr + 1)) → Sep w (rowOf tkE la lc 78 4 l :: rowOf lnE ra rc 71 1 out :: tlF out) w6 → ((s.size : Int) - k).toNat = mm_ → J Tryd.prog 37 91 R K37_29 [(9, iv k), (8, iv i), (7, .bool cm), (6, iv fr), (5, iv ln), (4, .slice la l.length lc), (3, .slice ra out.length rc), (0, .string s)] w6 := by
         intro mm2
         induction mm2 using Nat.strongRecOn with
         | _ mm2 ih2 =>
         intro k w6 k0 k1 k2 hK S21 hm2
         refine J.run 8 K37_30 [(55, .bool (decide (k < (s.size : Int)))), (9, iv k), (8, iv i), (7, .bool cm), (6, iv fr), (5, iv ln), (4, .slice la l.length lc), (3, .slice ra out.length rc), (0, .string s)] w6 (by kernel_rfl) ?_
         by_cases fk9 : k < (s.size : Int)
         ·skip
          refine J.head (.bool true) (congrArg Value.bool (decide_eq_true fk9)) ?_
          refine J.run 2 K37_31 [(57, iv k), (56, .string s), (55, .bool true), (9, iv k), (8, iv i), (7, .bool cm), (6, iv fr), (5, iv ln), (4, .slice la l.length lc), (3, .slice ra out.length rc), (0, .string s)] w6 (by kernel_rfl) ?_
          have := byteAt_bounds s (k).toNat
          refine J.ok (OK.byte 58 9 s k (byteAt s (k).toNat) (by kernel_rfl) (by kernel_rfl) (by omega) (by omega) (rfl)) ?_
          refine J.run 3 K37_32 [(61, .bool ((byteAt s (k).toNat) != 32)), (9, iv k), (8, iv i), (7, .bool cm), (6, iv fr), (5, iv ln), (4, .slice la l.length lc), (3, .slice ra out.length rc), (0, .string s)] w6 (by kernel_rfl) ?_
          by_cases fk10 : (byteAt s (k).toNat) = 32
          ·skip
           refine J.head (.bool false) (congrArg Value.bool (bne_eq_false_iff_eq.2 fk10)) ?_
           refine J.run 20 K37_33 [(78, iv k), (77, iv i), (76, .string s), (75, .slice la l.length lc), (9, iv k), (8, iv i), (7, .bool cm), (6, iv fr), (5, iv ln), (3, .slice ra out.length rc), (0, .string s)] w6 (by kernel_rfl) ?_
           refine J.ok (OK.sliceT 79 9 s (some (iv i)) (some (iv k)) ((i).toNat) ((k).toNat) (by kernel_rfl) (by kernel_rfl) (.inr ⟨_, _, rfl, by omega⟩) (.inr ⟨_, _, rfl, by omega⟩) (by first | omega | (simp; omega)) (by first | omega | (simp; omega))) ?_
           have := size_extract s (i := (i).toNat) (j := (k).toNat) (by first | omega | (simp; omega))
           refine J.run 4 K37_34 [(83, iv (IntKind.wrap .i64 (i - fr))), (80, iv ln), (79, .string (s.extract ((i).toNat) ((k).toNat))), (75, .slice la l.length lc), (9, iv k), (7, .bool cm), (6, iv fr), (5, iv ln), (3, .slice ra out.length rc), (0, .string s)] w6 (by kernel_rfl) ?_
           refine J.head (iv (i - fr)) (congrArg (Value.int .i64) (IntWalk.i64_in _ (by omega))) ?_
           refine J.run 1 K37_35 [(84, iv (IntKind.wrap .i64 ((i - fr) + 1))), (80, iv ln), (79, .string (s.extract ((i).toNat) ((k).toNat))), (75, .slice la l.length lc), (9, iv k), (7, .bool cm), (6, iv fr), (5, iv ln), (3, .slice ra out.length rc), (0, .string s)] w6 (by kernel_rfl) ?_
           refine J.head (iv ((i - fr) + 1)) (congrArg (Value.int .i64) (IntWalk.i64_in _ (by omega))) ?_
           refine J.run 2 K37_36 [(86, .agg #[iv 0, .string (s.extract ((i).toNat) ((k).toNat)), iv ln, iv ((i - fr) + 1)]), (75, .slice la l.length lc), (9, iv k), (7, .bool cm), (6, iv fr), (5, iv ln), (3, .slice ra out.length rc), (0, .string s)] w6 (by kernel_rfl) ?_
           refine J.newSlice S21 87 1 [iv 0, .string (s.extract ((i).toNat) ((k).toNat)), iv ln, iv ((i - fr) + 1)] 78 (by kernel_rfl) ?_
           intro b3 w7 S22
           refine J.append tkE S22 1 l (⟨0, (s.extract ((i).toNat) ((k).toNat)), ln, (i - fr) + 1⟩ : Tk) 88 71 (.agg #[iv 0, .string ByteArray.empty, iv 0, iv 0]) 40 ⟨b3, 0, none⟩ 1 rfl (by kernel_rfl) (by kernel_rfl) (by kernel_rfl) (by kernel_rfl) (by decide) (box_cells (S22.nth 0 rfl)) (by kernel_rfl) (by kernel_rfl) (⟨by omega, by omega⟩) ?_
           intro ra3 rc3 w8 S23
           replace S23 : Sep w (box b3 [iv 0, .string (s.extract ((i).toNat) ((k).toNat)), iv ln, iv ((i - fr) + 1)] 78 :: rowOf tkE ra3 rc3 78 4 (l ++ [(⟨0, (s.extract ((i).toNat) ((k).toNat)), ln, (i - fr) + 1⟩ : Tk)]) :: rowOf lnE ra rc 71 1 out :: tlF out) w8 := S23
           have S24 : Sep w (rowOf tkE ra3 rc3 78 4 (l ++ [(⟨0, (s.extract ((i).toNat) ((k).toNat)), ln, (i - fr) + 1⟩ : Tk)]) :: rowOf lnE ra rc 71 1 out :: tlF out) w8 := S23.erase 0
           clear S23
           refine J.run 8 K37_0 [(8, iv k), (4, .slice ra3 ((l ++ [(⟨0, (s.extract ((i).toNat) ((k).toNat)), ln, (i - fr) + 1⟩ : Tk)]).length) rc3), (7, .bool cm), (6, iv fr), (5, iv ln), (3, .slice ra out.length rc), (0, .string s)] w8 (by kernel_rfl) ?_
           refine J.run 0 K37_0 [(8, iv k), (7, .bool cm), (6, iv fr), (5, iv ln), (4, .slice ra3 ((l ++ [(⟨0, (s.extract ((i).toNat) ((k).toNat)), ln, (i - fr) + 1⟩ : Tk)]).length) rc3), (3, .slice ra out.length rc), (0, .string s)] w8 (by kernel_rfl) ?_
           exact ih1 _ (show ((s.size : Int) + 1 - k).toNat < mm1 from by omega) ra rc out ra3 rc3 (l ++ [(⟨0, (s.extract ((i).toNat) ((k).toNat)), ln, (i - fr) + 1⟩ : Tk)]) ln fr cm k w8 (by omega) (by omega) (by omega) (by omega) (by (try rw [List.length_append, List.length_singleton]); omega) (by (try rw [List.length_append, List.length_singleton]); (try rw [List.length_nil]); omega) (hnn) (⟨fun _ => by rw [fk7]; exact wr_out hK h0 (by omega) (by omega) (fun h_ => by omega), fun h_ => by omega⟩) S24 rfl
          ·skip
           refine J.head (.bool true) (congrArg Value.bool (bne_iff_ne.2 fk10)) ?_
           refine J.run 2 K37_37 [(63, iv k), (62, .string s), (61, .bool true), (9, iv k), (8, iv i), (7, .bool cm), (6, iv fr), (5, iv ln), (4, .slice la l.length lc), (3, .slice ra out.length rc), (0, .string s)] w6 (by kernel_rfl) ?_
           have := byteAt_bounds s (k).toNat
           refine J.ok (OK.byte 64 9 s k (byteAt s (k).toNat) (by kernel_rfl) (by kernel_rfl) (by omega) (by omega) (rfl)) ?_
           refine J.run 3 K37_38 [(67, .bool ((byteAt s (k).toNat) != 10)), (9, iv k), (8, iv i), (7, .bool cm), (6, iv fr), (5, iv ln), (4, .slice la l.length lc), (3, .slice ra out.length rc), (0, .string s)] w6 (by kernel_rfl) ?_
           by_cases fk11 : (byteAt s (k).toNat) = 10
           ·skip
            refine J.head (.bool false) (congrArg Value.bool (bne_eq_false_iff_eq.2 fk11)) ?_
            refine J.run 14 K37_39 [(78, iv k), (77, iv i), (76, .string s), (75, .slice la l.length lc), (9, iv k), (8, iv i), (7, .bool cm), (6, iv fr), (5, iv ln), (3, .slice ra out.length rc), (0, .string s)] w6 (by kernel_rfl) ?_
            refine J.ok (OK.sliceT 79 9 s (some (iv i)) (some (iv k)) ((i).toNat) ((k).toNat) (by kernel_rfl) (by kernel_rfl) (.inr ⟨_, _, rfl, by omega⟩) (.inr ⟨_, _, rfl, by omega⟩) (by first | omega | (simp; omega)) (by first | omega | (simp; omega))) ?_
            have := size_extract s (i := (i).toNat) (j := (k).toNat) (by first | omega | (simp; omega))
            refine J.run 4 K37_40 [(83, iv (IntKind.wrap .i64 (i - fr))), (80, iv ln), (79, .string (s.extract ((i).toNat) ((k).toNat))), (75, .slice la l.length lc), (9, iv k), (7, .bool cm), (6, iv fr), (5, iv ln), (3, .slice ra out.length rc), (0, .string s)] w6 (by kernel_rfl) ?_
            refine J.head (iv (i - fr)) (congrArg (Value.int .i64) (IntWalk.i64_in _ (by omega))) ?_
            refine J.run 1 K37_41 [(84, iv (IntKind.wrap .i64 ((i - fr) + 1))), (80, iv ln), (79, .string (s.extract ((i).toNat) ((k).toNat))), (75, .slice la l.length lc), (9, iv k), (7, .bool cm), (6, iv fr), (5, iv ln), (3, .slice ra out.length rc), (0, .string s)] w6 (by kernel_rfl) ?_
            refine J.head (iv ((i - fr) + 1)) (congrArg (Value.int .i64) (IntWalk.i64_in _ (by omega))) ?_
            refine J.run 2 K37_42 [(86, .agg #[iv 0, .string (s.extract ((i).toNat) ((k).toNat)), iv ln, iv ((i - fr) + 1)]), (75, .slice la l.length lc), (9, iv k), (7, .bool cm), (6, iv fr), (5, iv ln), (3, .slice ra out.length rc), (0, .string s)] w6 (by kernel_rfl) ?_
            refine J.newSlice S21 87 1 [iv 0, .string (s.extract ((i).toNat) ((k).toNat)), iv ln, iv ((i - fr) + 1)] 78 (by kernel_rfl) ?_
            intro b4 w9 S25
            refine J.append tkE S25 1 l (⟨0, (s.extract ((i).toNat) ((k).toNat)), ln, (i - fr) + 1⟩ : Tk) 88 71 (.agg #[iv 0, .string ByteArray.empty, iv 0, iv 0]) 40 ⟨b4, 0, none⟩ 1 rfl (by kernel_rfl) (by kernel_rfl) (by kernel_rfl) (by kernel_rfl) (by decide) (box_cells (S25.nth 0 rfl)) (by kernel_rfl) (by kernel_rfl) (⟨by omega, by omega⟩) ?_
            intro ra4 rc4 w10 S26
            replace S26 : Sep w (box b4 [iv 0, .string (s.extract ((i).toNat) ((k).toNat)), iv ln, iv ((i - fr) + 1)] 78 :: rowOf tkE ra4 rc4 78 4 (l ++ [(⟨0, (s.extract ((i).toNat) ((k).toNat)), ln, (i - fr) + 1⟩ : Tk)]) :: rowOf lnE ra rc 71 1 out :: tlF out) w10 := S26
            have S27 : Sep w (rowOf tkE ra4 rc4 78 4 (l ++ [(⟨0, (s.extract ((i).toNat) ((k).toNat)), ln, (i - fr) + 1⟩ : Tk)]) :: rowOf lnE ra rc 71 1 out :: tlF out) w10 := S26.erase 0
            clear S26
            refine J.run 8 K37_0 [(8, iv k), (4, .slice ra4 ((l ++ [(⟨0, (s.extract ((i).toNat) ((k).toNat)), ln, (i - fr) + 1⟩ : Tk)]).length) rc4), (7, .bool cm), (6, iv fr), (5, iv ln), (3, .slice ra out.length rc), (0, .string s)] w10 (by kernel_rfl) ?_
            refine J.run 0 K37_0 [(8, iv k), (7, .bool cm), (6, iv fr), (5, iv ln), (4, .slice ra4 ((l ++ [(⟨0, (s.extract ((i).toNat) ((k).toNat)), ln, (i - fr) + 1⟩ : Tk)]).length) rc4), (3, .slice ra out.length rc), (0, .string s)] w10 (by kernel_rfl) ?_
            exact ih1 _ (show ((s.size : Int) + 1 - k).toNat < mm1 from by omega) ra rc out ra4 rc4 (l ++ [(⟨0, (s.extract ((i).toNat) ((k).toNat)), ln, (i - fr) + 1⟩ : Tk)]) ln fr cm k w10 (by omega) (by omega) (by omega) (by omega) (by (try rw [List.length_append, List.length_singleton]); omega) (by (try rw [List.length_append, List.length_singleton]); (try rw [List.length_nil]); omega) (hnn) (⟨fun _ => by rw [fk7]; exact wr_out hK h0 (by omega) (by omega) (fun h_ => by omega), fun h_ => by omega⟩) S27 rfl
           ·skip
            refine J.head (.bool true) (congrArg Value.bool (bne_iff_ne.2 fk11)) ?_
            refine J.run 2 K37_43 [(69, iv k), (68, .string s), (67, .bool true), (9, iv k), (8, iv i), (7, .bool cm), (6, iv fr), (5, iv ln), (4, .slice la l.length lc), (3, .slice ra out.length rc), (0, .string s)] w6 (by kernel_rfl) ?_
            have := byteAt_bounds s (k).toNat
            refine J.ok (OK.byte 70 9 s k (byteAt s (k).toNat) (by kernel_rfl) (by kernel_rfl) (by omega) (by omega) (rfl)) ?_
            refine J.run 3 K37_44 [(72, .bool ((byteAt s (k).toNat) != 35)), (9, iv k), (8, iv i), (7, .bool cm), (6, iv fr), (5, iv ln), (4, .slice la l.length lc), (3, .slice ra out.length rc), (0, .string s)] w6 (by kernel_rfl) ?_
            by_cases fk12 : (byteAt s (k).toNat) = 35
            ·skip
             refine J.head (.bool false) (congrArg Value.bool (bne_eq_false_iff_eq.2 fk12)) ?_
             refine J.run 8 K37_45 [(78, iv k), (77, iv i), (76, .string s), (75, .slice la l.length lc), (9, iv k), (8, iv i), (7, .bool cm), (6, iv fr), (5, iv ln), (3, .slice ra out.length rc), (0, .string s)] w6 (by kernel_rfl) ?_
             refine J.ok (OK.sliceT 79 9 s (some (iv i)) (some (iv k)) ((i).toNat) ((k).toNat) (by kernel_rfl) (by kernel_rfl) (.inr ⟨_, _, rfl, by omega⟩) (.inr ⟨_, _, rfl, by omega⟩) (by first | omega | (simp; omega)) (by first | omega | (simp; omega))) ?_
             have := size_extract s (i := (i).toNat) (j := (k).toNat) (by first | omega | (simp; omega))
             refine J.run 4 K37_46 [(83, iv (IntKind.wrap .i64 (i - fr))), (80, iv ln), (79, .string (s.extract ((i).toNat) ((k).toNat))), (75, .slice la l.length lc), (9, iv k), (7, .bool cm), (6, iv fr), (5, iv ln), (3, .slice ra out.length rc), (0, .string s)] w6 (by kernel_rfl) ?_
             refine J.head (iv (i - fr)) (congrArg (Value.int .i64) (IntWalk.i64_in _ (by omega))) ?_
             refine J.run 1 K37_47 [(84, iv (IntKind.wrap .i64 ((i - fr) + 1))), (80, iv ln), (79, .string (s.extract ((i).toNat) ((k).toNat))), (75, .slice la l.length lc), (9, iv k), (7, .bool cm), (6, iv fr), (5, iv ln), (3, .slice ra out.length rc), (0, .string s)] w6 (by kernel_rfl) ?_
             refine J.head (iv ((i - fr) + 1)) (congrArg (Value.int .i64) (IntWalk.i64_in _ (by omega))) ?_
             refine J.run 2 K37_48 [(86, .agg #[iv 0, .string (s.extract ((i).toNat) ((k).toNat)), iv ln, iv ((i - fr) + 1)]), (75, .slice la l.length lc), (9, iv k), (7, .bool cm), (6, iv fr), (5, iv ln), (3, .slice ra out.length rc), (0, .string s)] w6 (by kernel_rfl) ?_
             refine J.newSlice S21 87 1 [iv 0, .string (s.extract ((i).toNat) ((k).toNat)), iv ln, iv ((i - fr) + 1)] 78 (by kernel_rfl) ?_
             intro b5 w11 S28
             refine J.append tkE S28 1 l (⟨0, (s.extract ((i).toNat) ((k).toNat)), ln, (i - fr) + 1⟩ : Tk) 88 71 (.agg #[iv 0, .string ByteArray.empty, iv 0, iv 0]) 40 ⟨b5, 0, none⟩ 1 rfl (by kernel_rfl) (by kernel_rfl) (by kernel_rfl) (by kernel_rfl) (by decide) (box_cells (S28.nth 0 rfl)) (by kernel_rfl) (by kernel_rfl) (⟨by omega, by omega⟩) ?_
             intro ra5 rc5 w12 S29
             replace S29 : Sep w (box b5 [iv 0, .string (s.extract ((i).toNat) ((k).toNat)), iv ln, iv ((i - fr) + 1)] 78 :: rowOf tkE ra5 rc5 78 4 (l ++ [(⟨0, (s.extract ((i).toNat) ((k).toNat)), ln, (i - fr) + 1⟩ : Tk)]) :: rowOf lnE ra rc 71 1 out :: tlF out) w12 := S29
             have S30 : Sep w (rowOf tkE ra5 rc5 78 4 (l ++ [(⟨0, (s.extract ((i).toNat) ((k).toNat)), ln, (i - fr) + 1⟩ : Tk)]) :: rowOf lnE ra rc 71 1 out :: tlF out) w12 := S29.erase 0
             clear S29
             refine J.run 8 K37_0 [(8, iv k), (4, .slice ra5 ((l ++ [(⟨0, (s.extract ((i).toNat) ((k).toNat)), ln, (i - fr) + 1⟩ : Tk)]).length) rc5), (7, .bool cm), (6, iv fr), (5, iv ln), (3, .slice ra out.length rc), (0, .string s)] w12 (by kernel_rfl) ?_
             refine J.run 0 K37_0 [(8, iv k), (7, .bool cm), (6, iv fr), (5, iv ln), (4, .slice ra5 ((l ++ [(⟨0, (s.extract ((i).toNat) ((k).toNat)), ln, (i - fr) + 1⟩ : Tk)]).length) rc5), (3, .slice ra out.length rc), (0, .string s)] w12 (by kernel_rfl) ?_
             exact ih1 _ (show ((s.size : Int) + 1 - k).toNat < mm1 from by omega) ra rc out ra5 rc5 (l ++ [(⟨0, (s.extract ((i).toNat) ((k).toNat)), ln, (i - fr) + 1⟩ : Tk)]) ln fr cm k w12 (by omega) (by omega) (by omega) (by omega) (by (try rw [List.length_append, List.length_singleton]); omega) (by (try rw [List.length_append, List.length_singleton]); (try rw [List.length_nil]); omega) (hnn) (⟨fun _ => by rw [fk7]; exact wr_out hK h0 (by omega) (by omega) (fun h_ => by omega), fun h_ => by omega⟩) S30 rfl
            ·skip
             refine J.head (.bool true) (congrArg Value.bool (bne_iff_ne.2 fk12)) ?_
             refine J.run 6 K37_49 [(74, iv (IntKind.wrap .i64 (k + 1))), (8, iv i), (7, .bool cm), (6, iv fr), (5, iv ln), (4, .slice la l.length lc), (3, .slice ra out.length rc), (0, .string s)] w6 (by kernel_rfl) ?_
             refine J.head (iv (k + 1)) (congrArg (Value.int .i64) (IntWalk.i64_in _ (by omega))) ?_
             refine J.run 4 K37_29 [(9, iv (k + 1)), (8, iv i), (7, .bool cm), (6, iv fr), (5, iv ln), (4, .slice la l.length lc), (3, .slice ra out.length rc), (0, .string s)] w6 (by kernel_rfl) ?_
             refine J.run 0 K37_29 [(9, iv (k + 1)), (8, iv i), (7, .bool cm), (6, iv fr), (5, iv ln), (4, .slice la l.length lc), (3, .slice ra out.length rc), (0, .string s)] w6 (by kernel_rfl) ?_
             exact ih2 _ (show ((s.size : Int) - (k + 1)).toNat < mm2 from by omega) (k + 1) w6 (by omega) (by omega) (.inl (by omega)) (wr_in hK h0 k0 (by omega) (by omega) (by omega) (by omega)) S21 rfl
         ·skip
          refine J.head (.bool false) (congrArg Value.bool (decide_eq_false fk9)) ?_
          refine J.run 26 K37_50 [(78, iv k), (77, iv i), (76, .string s), (75, .slice la l.length lc), (9, iv k), (8, iv i), (7, .bool cm), (6, iv fr), (5, iv ln), (3, .slice ra out.length rc), (0, .string s)] w6 (by kernel_rfl) ?_
          refine J.ok (OK.sliceT 79 9 s (some (iv i)) (some (iv k)) ((i).toNat) ((k).toNat) (by kernel_rfl) (by kernel_rfl) (.inr ⟨_, _, rfl, by omega⟩) (.inr ⟨_, _, rfl, by omega⟩) (by first | omega | (simp; omega)) (by first | omega | (simp; omega))) ?_
          have := size_extract s (i := (i).toNat) (j := (k).toNat) (by first | omega | (simp; omega))
          refine J.run 4 K37_51 [(83, iv (IntKind.wrap .i64 (i - fr))), (80, iv ln), (79, .string (s.extract ((i).toNat) ((k).toNat))), (75, .slice la l.length lc), (9, iv k), (7, .bool cm), (6, iv fr), (5, iv ln), (3, .slice ra out.length rc), (0, .string s)] w6 (by kernel_rfl) ?_
          refine J.head (iv (i - fr)) (congrArg (Value.int .i64) (IntWalk.i64_in _ (by omega))) ?_
          refine J.run 1 K37_52 [(84, iv (IntKind.wrap .i64 ((i - fr) + 1))), (80, iv ln), (79, .string (s.extract ((i).toNat) ((k).toNat))), (75, .slice la l.length lc), (9, iv k), (7, .bool cm), (6, iv fr), (5, iv ln), (3, .slice ra out.length rc), (0, .string s)] w6 (by kernel_rfl) ?_
          refine J.head (iv ((i - fr) + 1)) (congrArg (Value.int .i64) (IntWalk.i64_in _ (by omega))) ?_
          refine J.run 2 K37_53 [(86, .agg #[iv 0, .string (s.extract ((i).toNat) ((k).toNat)), iv ln, iv ((i - fr) + 1)]), (75, .slice la l.length lc), (9, iv k), (7, .bool cm), (6, iv fr), (5, iv ln), (3, .slice ra out.length rc), (0, .string s)] w6 (by kernel_rfl) ?_
          refine J.newSlice S21 87 1 [iv 0, .string (s.extract ((i).toNat) ((k).toNat)), iv ln, iv ((i - fr) + 1)] 78 (by kernel_rfl) ?_
          intro b6 w13 S31
          refine J.append tkE S31 1 l (⟨0, (s.extract ((i).toNat) ((k).toNat)), ln, (i - fr) + 1⟩ : Tk) 88 71 (.agg #[iv 0, .string ByteArray.empty, iv 0, iv 0]) 40 ⟨b6, 0, none⟩ 1 rfl (by kernel_rfl) (by kernel_rfl) (by kernel_rfl) (by kernel_rfl) (by decide) (box_cells (S31.nth 0 rfl)) (by kernel_rfl) (by kernel_rfl) (⟨by omega, by omega⟩) ?_
          intro ra6 rc6 w14 S32
          replace S32 : Sep w (box b6 [iv 0, .string (s.extract ((i).toNat) ((k).toNat)), iv ln, iv ((i - fr) + 1)] 78 :: rowOf tkE ra6 rc6 78 4 (l ++ [(⟨0, (s.extract ((i).toNat) ((k).toNat)), ln, (i - fr) + 1⟩ : Tk)]) :: rowOf lnE ra rc 71 1 out :: tlF out) w14 := S32
          have S33 : Sep w (rowOf tkE ra6 rc6 78 4 (l ++ [(⟨0, (s.extract ((i).toNat) ((k).toNat)), ln, (i - fr) + 1⟩ : Tk)]) :: rowOf lnE ra rc 71 1 out :: tlF out) w14 := S32.erase 0
          clear S32
          refine J.run 8 K37_0 [(8, iv k), (4, .slice ra6 ((l ++ [(⟨0, (s.extract ((i).toNat) ((k).toNat)), ln, (i - fr) + 1⟩ : Tk)]).length) rc6), (7, .bool cm), (6, iv fr), (5, iv ln), (3, .slice ra out.length rc), (0, .string s)] w14 (by kernel_rfl) ?_
          refine J.run 0 K37_0 [(8, iv k), (7, .bool cm), (6, iv fr), (5, iv ln), (4, .slice ra6 ((l ++ [(⟨0, (s.extract ((i).toNat) ((k).toNat)), ln, (i - fr) + 1⟩ : Tk)]).length) rc6), (3, .slice ra out.length rc), (0, .string s)] w14 (by kernel_rfl) ?_
          exact ih1 _ (show ((s.size : Int) + 1 - k).toNat < mm1 from by omega) ra rc out ra6 rc6 (l ++ [(⟨0, (s.extract ((i).toNat) ((k).toNat)), ln, (i - fr) + 1⟩ : Tk)]) ln fr cm k w14 (by omega) (by omega) (by omega) (by omega) (by (try rw [List.length_append, List.length_singleton]); omega) (by (try rw [List.length_append, List.length_singleton]); (try rw [List.length_nil]); omega) (hnn) (⟨fun _ => by rw [fk7]; exact wr_out hK h0 (by omega) (by omega) (fun h_ => by omega), fun h_ => by omega⟩) S33 rfl
        exact L37_2 _ i w1 (by omega) (by omega) (.inr ⟨rfl, by omega, by omega, by omega, by omega⟩) (wr_start (hQ.1 (by omega)) fk7) S4 rfl
  ·skip
   refine J.head (.bool false) (congrArg Value.bool (decide_eq_false fk1)) ?_
   refine J.run 7 K37_54 [(2, .slice ra out.length rc)] w1 (by kernel_rfl) ?_
   refine J.ret Tryd.f37 [.slice ra out.length rc] Tryd.func37 ⟨by kernel_rfl, trivial⟩ ?_
   refine hR _ _ ?_
   exact ⟨_, _, out, rfl, hQ.2 (by omega), ⟨hnn, by omega⟩, S4.erase 0⟩
 exact L37_1 _ none 0 ([]) none 0 ([]) 1 0 false 0 w (by omega) (by omega) (by omega) (by omega) (by simp) (by simp) (fun x hx => by cases hx) (⟨fun _ => wr_first s, fun h_ => by omega⟩) S3 rfl

end Go.Proofs.YthhdaackhfffiaaDoor

