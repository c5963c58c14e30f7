/- Walks of functions of this seat, printed by a program over the engine. Conditions: as each theorem says. -/
import Derived.Test.YtjlmkdaeabjeoaaQ4
namespace Go.Proofs.Ytjlmkdaeabjeoaa
open Go.Eng Go.RowKit
set_option linter.unusedSimpArgs false
set_option linter.unusedVariables false
structure Act where
  gKind : Int
  gAfter : Int
  gAnswer : Int
def actE (x : Act) : List Value := [.int .u8 x.gKind, .int .u16 x.gAfter, .int .u16 x.gAnswer]
def actQ (x : Act) : Prop := (0 ≤ x.gKind ∧ x.gKind ≤ 255) ∧ (0 ≤ x.gAfter ∧ x.gAfter ≤ 65535) ∧ (0 ≤ x.gAnswer ∧ x.gAnswer ≤ 65535)
theorem getD_all {α : Type} {l : List α} {Q : α → Prop} (h : ∀ y ∈ l, Q y) (d : α) (hd : Q d) (j : Nat) : Q (l.getD j d) := by
  simp only [List.getD]
  cases hj : l[j]? with
  | none => exact hd
  | some y => exact h y (List.mem_of_getElem? hj)
theorem valid_end {q a e : Int} {o f r : Bool} (h : validB q a e o f = true) : validB q 0 (endE e r) false (endE e r == 7) = true := by
  have hb := validB_bounds h
  have h1 : questionB q = true := questionB_iff.2 hb.1
  have h2 : 0 ≤ endE e r ∧ endE e r ≤ 7 := by cases r <;> simp [endE] <;> omega
  simp [validB, h1, h2, instantB]
theorem valid_ask {q a e now : Int} {o f : Bool} (h : validB q a e o f = true) (hf : f = false) (hn : 0 ≤ now ∧ now ≤ 1099511627776) : validB (nextF q) now e true false = true := by
  have hb := validB_bounds h
  have h3 : e ≠ 7 := by subst hf; simp [validB] at h; omega
  exact valid_of (nextF_bounds hb.1) hn (.inl rfl) (by omega) rfl
theorem valid_open {q a e : Int} {o f : Bool} (h : validB q a e o f = true) (ho : o = true) : f = false := by
  subst ho; cases f <;> simp [validB] at h ⊢
theorem act_all {l : List Act} (h : ∀ y ∈ l, actQ y) (j : Nat) : actQ (l.getD j ⟨0, 0, 0⟩) := getD_all h _ (by unfold actQ; decide) j
theorem hb8 : HasBody Try.prog 8 := fun _ _ => by kernel_rfl
noncomputable def K8_0 : List Item := adv 7 [] (bodyOf Try.f8)
noncomputable def K8_1 : List Item := adv 6 [] (popK K8_0)
noncomputable def K8_2 : List Item := adv 8 [true] K8_1
noncomputable def K8_3 : List Item := adv 2 [] (popK K8_2)
noncomputable def K8_4 : List Item := adv 5 [] K8_1
noncomputable def K8_5 : List Item := adv 3 [true] K8_4
noncomputable def K8_6 : List Item := adv 2 [] (popK K8_5)
noncomputable def K8_7 : List Item := adv 6 [false] K8_4
noncomputable def K8_8 : List Item := adv 3 [] (popK K8_7)
noncomputable def K8_9 : List Item := adv 23 [false] (popK (popK K8_8))
noncomputable def K8_10 : List Item := adv 5 [] K8_9
noncomputable def K8_11 : List Item := adv 6 [true] K8_10
noncomputable def K8_12 : List Item := adv 5 [] (popK (popK (popK (popK K8_11))))
noncomputable def K8_13 : List Item := adv 1 [] (popK K8_12)
noncomputable def K8_14 : List Item := adv 1 [] K8_13
noncomputable def K8_15 : List Item := adv 4 [] K8_14
noncomputable def K8_16 : List Item := adv 6 [] (popK (popK (popK K8_15)))
noncomputable def K8_17 : List Item := adv 1 [] (popK K8_16)
noncomputable def K8_18 : List Item := adv 7 [] K8_17
noncomputable def K8_19 : List Item := adv 3 [true] K8_18
noncomputable def K8_20 : List Item := adv 1 [] (popK K8_19)
noncomputable def K8_21 : List Item := adv 4 [] (popK K8_20)
noncomputable def K8_22 : List Item := adv 3 [] (popK K8_21)
noncomputable def K8_23 : List Item := adv 13 [false, true] (rRest K8_22)
noncomputable def K8_24 : List Item := adv 1 [] (popK K8_23)
noncomputable def K8_25 : List Item := adv 10 [false] (popK K8_24)
noncomputable def K8_26 : List Item := adv 4 [] (popK K8_20)
noncomputable def K8_27 : List Item := adv 3 [] (popK K8_26)
noncomputable def K8_28 : List Item := adv 13 [false, true] (rRest K8_27)
noncomputable def K8_29 : List Item := adv 1 [] (popK K8_28)
noncomputable def K8_30 : List Item := adv 10 [false] (popK K8_29)
noncomputable def K8_31 : List Item := adv 4 [] (popK K8_20)
noncomputable def K8_32 : List Item := adv 3 [] (popK K8_31)
noncomputable def K8_33 : List Item := adv 14 [false, false] (rRest K8_32)
noncomputable def K8_34 : List Item := adv 2 [] (popK (popK K8_33))
noncomputable def K8_35 : List Item := adv 1 [] K8_34
noncomputable def K8_36 : List Item := adv 1 [] (popK K8_35)
noncomputable def K8_37 : List Item := adv 7 [] K8_36
noncomputable def K8_38 : List Item := adv 1 [] (popK K8_37)
noncomputable def K8_39 : List Item := adv 2 [] K8_38
noncomputable def K8_40 : List Item := adv 11 [false] K8_39
noncomputable def K8_41 : List Item := adv 4 [] (popK (popK K8_40))
noncomputable def K8_42 : List Item := adv 7 [false] K8_18
noncomputable def K8_43 : List Item := adv 6 [true, true] K8_42
noncomputable def K8_44 : List Item := adv 1 [] (popK K8_43)
noncomputable def K8_45 : List Item := adv 5 [] (popK K8_44)
noncomputable def K8_46 : List Item := adv 1 [] (popK K8_45)
noncomputable def K8_47 : List Item := adv 18 [false] (popK K8_46)
noncomputable def K8_48 : List Item := adv 1 [] (popK K8_47)
noncomputable def K8_49 : List Item := adv 2 [] K8_48
noncomputable def K8_50 : List Item := adv 3 [true] K8_49
noncomputable def K8_51 : List Item := adv 1 [] (popK K8_50)
noncomputable def K8_52 : List Item := adv 3 [] K8_51
noncomputable def K8_53 : List Item := adv 3 [] (popK K8_52)
noncomputable def K8_54 : List Item := adv 3 [] (popK K8_53)
noncomputable def K8_55 : List Item := adv 14 [false] (popK K8_54)
noncomputable def K8_56 : List Item := adv 2 [] (popK (popK K8_55))
noncomputable def K8_57 : List Item := adv 1 [] K8_56
noncomputable def K8_58 : List Item := adv 1 [] (popK K8_57)
noncomputable def K8_59 : List Item := adv 7 [] K8_58
noncomputable def K8_60 : List Item := adv 1 [] (popK K8_59)
noncomputable def K8_61 : List Item := adv 2 [] K8_60
noncomputable def K8_62 : List Item := adv 1 [] K8_61
noncomputable def K8_63 : List Item := adv 1 [] (popK K8_62)
noncomputable def K8_64 : List Item := adv 1 [] (popK K8_63)
noncomputable def K8_65 : List Item := adv 6 [false] K8_64
noncomputable def K8_66 : List Item := adv 4 [] (popK (popK K8_65))
noncomputable def K8_67 : List Item := adv 3 [] (popK K8_53)
noncomputable def K8_68 : List Item := adv 13 [true] (popK K8_67)
noncomputable def K8_69 : List Item := adv 1 [] (popK K8_68)
noncomputable def K8_70 : List Item := adv 10 [false] (popK K8_69)
noncomputable def K8_71 : List Item := adv 3 [false] K8_49
noncomputable def K8_72 : List Item := adv 3 [] (popK K8_71)
noncomputable def K8_73 : List Item := adv 3 [] (popK K8_72)
noncomputable def K8_74 : List Item := adv 14 [false] (popK K8_73)
noncomputable def K8_75 : List Item := adv 2 [] (popK (popK K8_74))
noncomputable def K8_76 : List Item := adv 1 [] K8_75
noncomputable def K8_77 : List Item := adv 1 [] (popK K8_76)
noncomputable def K8_78 : List Item := adv 7 [] K8_77
noncomputable def K8_79 : List Item := adv 1 [] (popK K8_78)
noncomputable def K8_80 : List Item := adv 2 [] K8_79
noncomputable def K8_81 : List Item := adv 1 [] K8_80
noncomputable def K8_82 : List Item := adv 1 [] (popK K8_81)
noncomputable def K8_83 : List Item := adv 1 [] (popK K8_82)
noncomputable def K8_84 : List Item := adv 6 [false] K8_83
noncomputable def K8_85 : List Item := adv 4 [] (popK (popK K8_84))
noncomputable def K8_86 : List Item := adv 3 [] (popK K8_72)
noncomputable def K8_87 : List Item := adv 13 [true] (popK K8_86)
noncomputable def K8_88 : List Item := adv 1 [] (popK K8_87)
noncomputable def K8_89 : List Item := adv 10 [false] (popK K8_88)
noncomputable def K8_90 : List Item := adv 5 [false] K8_42
noncomputable def K8_91 : List Item := adv 4 [true] K8_90
noncomputable def K8_92 : List Item := adv 1 [] (popK K8_91)
noncomputable def K8_93 : List Item := adv 5 [] (popK K8_92)
noncomputable def K8_94 : List Item := adv 1 [] (popK K8_93)
noncomputable def K8_95 : List Item := adv 18 [false] (popK K8_94)
noncomputable def K8_96 : List Item := adv 1 [] (popK K8_95)
noncomputable def K8_97 : List Item := adv 2 [] K8_96
noncomputable def K8_98 : List Item := adv 3 [true] K8_97
noncomputable def K8_99 : List Item := adv 1 [] (popK K8_98)
noncomputable def K8_100 : List Item := adv 3 [] K8_99
noncomputable def K8_101 : List Item := adv 3 [] (popK K8_100)
noncomputable def K8_102 : List Item := adv 3 [] (popK K8_101)
noncomputable def K8_103 : List Item := adv 14 [false] (popK K8_102)
noncomputable def K8_104 : List Item := adv 2 [] (popK (popK K8_103))
noncomputable def K8_105 : List Item := adv 1 [] K8_104
noncomputable def K8_106 : List Item := adv 1 [] (popK K8_105)
noncomputable def K8_107 : List Item := adv 7 [] K8_106
noncomputable def K8_108 : List Item := adv 1 [] (popK K8_107)
noncomputable def K8_109 : List Item := adv 2 [] K8_108
noncomputable def K8_110 : List Item := adv 1 [] K8_109
noncomputable def K8_111 : List Item := adv 1 [] (popK K8_110)
noncomputable def K8_112 : List Item := adv 1 [] (popK K8_111)
noncomputable def K8_113 : List Item := adv 6 [false] K8_112
noncomputable def K8_114 : List Item := adv 4 [] (popK (popK K8_113))
noncomputable def K8_115 : List Item := adv 3 [] (popK K8_101)
noncomputable def K8_116 : List Item := adv 13 [true] (popK K8_115)
noncomputable def K8_117 : List Item := adv 1 [] (popK K8_116)
noncomputable def K8_118 : List Item := adv 10 [false] (popK K8_117)
noncomputable def K8_119 : List Item := adv 6 [false] K8_90
noncomputable def K8_120 : List Item := adv 2 [true] K8_119
noncomputable def K8_121 : List Item := adv 1 [] (popK K8_120)
noncomputable def K8_122 : List Item := adv 3 [] (popK K8_121)
noncomputable def K8_123 : List Item := adv 14 [false] (popK K8_122)
noncomputable def K8_124 : List Item := adv 2 [] (popK (popK K8_123))
noncomputable def K8_125 : List Item := adv 1 [] K8_124
noncomputable def K8_126 : List Item := adv 1 [] (popK K8_125)
noncomputable def K8_127 : List Item := adv 7 [] K8_126
noncomputable def K8_128 : List Item := adv 1 [] (popK K8_127)
noncomputable def K8_129 : List Item := adv 2 [] K8_128
noncomputable def K8_130 : List Item := adv 1 [] K8_129
noncomputable def K8_131 : List Item := adv 1 [] (popK K8_130)
noncomputable def K8_132 : List Item := adv 1 [] (popK K8_131)
noncomputable def K8_133 : List Item := adv 6 [false] K8_132
noncomputable def K8_134 : List Item := adv 4 [] (popK (popK K8_133))
noncomputable def K8_135 : List Item := adv 3 [] (popK K8_121)
noncomputable def K8_136 : List Item := adv 14 [false] (popK K8_135)
noncomputable def K8_137 : List Item := adv 2 [] (popK (popK K8_136))
noncomputable def K8_138 : List Item := adv 1 [] K8_137
noncomputable def K8_139 : List Item := adv 1 [] (popK K8_138)
noncomputable def K8_140 : List Item := adv 7 [] K8_139
noncomputable def K8_141 : List Item := adv 1 [] (popK K8_140)
noncomputable def K8_142 : List Item := adv 2 [] K8_141
noncomputable def K8_143 : List Item := adv 1 [] K8_142
noncomputable def K8_144 : List Item := adv 1 [] (popK K8_143)
noncomputable def K8_145 : List Item := adv 1 [] (popK K8_144)
noncomputable def K8_146 : List Item := adv 6 [false] K8_145
noncomputable def K8_147 : List Item := adv 4 [] (popK (popK K8_146))
noncomputable def K8_148 : List Item := adv 3 [] (popK K8_121)
noncomputable def K8_149 : List Item := adv 14 [false] (popK K8_148)
noncomputable def K8_150 : List Item := adv 2 [] (popK (popK K8_149))
noncomputable def K8_151 : List Item := adv 1 [] K8_150
noncomputable def K8_152 : List Item := adv 1 [] (popK K8_151)
noncomputable def K8_153 : List Item := adv 1 [] K8_152
noncomputable def K8_154 : List Item := adv 4 [] (popK K8_153)
noncomputable def K8_155 : List Item := adv 1 [] K8_154
noncomputable def K8_156 : List Item := adv 1 [] (popK K8_155)
noncomputable def K8_157 : List Item := adv 2 [] K8_156
noncomputable def K8_158 : List Item := adv 1 [] K8_157
noncomputable def K8_159 : List Item := adv 1 [] (popK K8_158)
noncomputable def K8_160 : List Item := adv 1 [] (popK K8_159)
noncomputable def K8_161 : List Item := adv 6 [false] K8_160
noncomputable def K8_162 : List Item := adv 4 [] (popK (popK K8_161))
noncomputable def K8_163 : List Item := adv 7 [] K8_152
noncomputable def K8_164 : List Item := adv 1 [] (popK K8_163)
noncomputable def K8_165 : List Item := adv 2 [] K8_164
noncomputable def K8_166 : List Item := adv 1 [] K8_165
noncomputable def K8_167 : List Item := adv 1 [] (popK K8_166)
noncomputable def K8_168 : List Item := adv 1 [] (popK K8_167)
noncomputable def K8_169 : List Item := adv 6 [false] K8_168
noncomputable def K8_170 : List Item := adv 4 [] (popK (popK K8_169))
noncomputable def K8_171 : List Item := adv 14 [false, false] K8_119
noncomputable def K8_172 : List Item := adv 2 [] (popK (popK K8_171))
noncomputable def K8_173 : List Item := adv 1 [] K8_172
noncomputable def K8_174 : List Item := adv 1 [] (popK K8_173)
noncomputable def K8_175 : List Item := adv 1 [] K8_174
noncomputable def K8_176 : List Item := adv 4 [] (popK K8_175)
noncomputable def K8_177 : List Item := adv 1 [] K8_176
noncomputable def K8_178 : List Item := adv 1 [] (popK K8_177)
noncomputable def K8_179 : List Item := adv 2 [] K8_178
noncomputable def K8_180 : List Item := adv 1 [] K8_179
noncomputable def K8_181 : List Item := adv 1 [] (popK K8_180)
noncomputable def K8_182 : List Item := adv 1 [] (popK K8_181)
noncomputable def K8_183 : List Item := adv 6 [false] K8_182
noncomputable def K8_184 : List Item := adv 4 [] (popK (popK K8_183))
noncomputable def K8_185 : List Item := adv 7 [] K8_174
noncomputable def K8_186 : List Item := adv 1 [] (popK K8_185)
noncomputable def K8_187 : List Item := adv 2 [] K8_186
noncomputable def K8_188 : List Item := adv 1 [] K8_187
noncomputable def K8_189 : List Item := adv 1 [] (popK K8_188)
noncomputable def K8_190 : List Item := adv 1 [] (popK K8_189)
noncomputable def K8_191 : List Item := adv 6 [false] K8_190
noncomputable def K8_192 : List Item := adv 4 [] (popK (popK K8_191))
noncomputable def K8_193 : List Item := adv 6 [false] K8_10
set_option maxRecDepth 20000 in
set_option maxHeartbeats 20000000 in
theorem scripts_any (seed : Int) (pa : Option Addr) (len cap : Nat) (l : List Act) (w : World) (hs : 0 ≤ seed ∧ seed ≤ 65535) (hP : Recs actE 3 w pa len l) (hlen : len ≤ 9223372036854775807) (hpl : ∀ y ∈ l, actQ y) : Ret Try.prog 8 #[.int .u16 seed, .slice pa len cap] w (fun v w' => v = .bool true ∧ Sep w [] w') := by
  have S0 := Sep.refl w
  refine Ret.named fun R hR => ?_
  refine Ret.of_J (N := 144) [(0, .int .u16 seed), (1, .slice pa len cap)] Try.func8 rfl rfl (Nat.le_of_ble_eq_true (by kernel_rfl)) (by kernel_rfl) ?_
  refine J.run 7 K8_0 [(0, .int .u16 seed), (1, .slice pa len cap)] w (by kernel_rfl) ?_
  refine J.callF 15 9 #[] hb9 (by kernel_rfl) (awake_any  _) ?_
  rintro _ w1 ⟨rfl, T1⟩
  have S1 : Sep w [] w1 := S0.trans T1
  clear T1
  refine J.run 6 K8_1 [(21, .bool (seed == 0)), (0, .int .u16 seed), (1, .slice pa len cap)] w1 (by kernel_rfl) ?_
  by_cases fk1 : seed = 0
  · skip
    refine J.head (.bool true) (congrArg Value.bool (beq_iff_eq.2 fk1)) ?_
    refine J.run 8 K8_2 [] w1 (by kernel_rfl) ?_
    refine J.callF 26 9 #[] hb9 (by kernel_rfl) (awake_any  _) ?_
    rintro _ w2 ⟨rfl, T2⟩
    have S2 : Sep w [] w2 := S1.trans T2
    clear T2 S1
    refine J.run 2 K8_3 [(4, .bool true)] w2 (by kernel_rfl) ?_
    refine J.ret Try.f8 [.bool true] Try.func8 ⟨by kernel_rfl, trivial⟩ ?_
    refine hR _ _ ?_
    exact ⟨rfl, S2.nil⟩
  · skip
    refine J.head (.bool false) (congrArg Value.bool (beq_eq_false_iff_ne.2 fk1)) ?_
    refine J.run 5 K8_4 [(25, .bool (decide ((len : Int) > 100))), (0, .int .u16 seed), (1, .slice pa len cap)] w1 (by kernel_rfl) ?_
    by_cases fk2 : (len : Int) > 100
    · skip
      refine J.head (.bool true) (congrArg Value.bool (decide_eq_true fk2)) ?_
      refine J.run 3 K8_5 [] w1 (by kernel_rfl) ?_
      refine J.callF 26 9 #[] hb9 (by kernel_rfl) (awake_any  _) ?_
      rintro _ w3 ⟨rfl, T3⟩
      have S3 : Sep w [] w3 := S1.trans T3
      clear T3 S1
      refine J.run 2 K8_6 [(4, .bool true)] w3 (by kernel_rfl) ?_
      refine J.ret Try.f8 [.bool true] Try.func8 ⟨by kernel_rfl, trivial⟩ ?_
      refine hR _ _ ?_
      exact ⟨rfl, S3.nil⟩
    · skip
      refine J.head (.bool false) (congrArg Value.bool (decide_eq_false fk2)) ?_
      refine J.run 6 K8_7 [(29, .int .i64 (IntKind.wrap .i64 seed)), (1, .slice pa len cap)] w1 (by kernel_rfl) ?_
      refine J.head (.int .i64 seed) (congrArg (Value.int .i64) (IntWalk.i64_in _ (by omega))) ?_
      have fk3 : (questionB seed) = true := questionB_iff.2 (by omega)
      refine J.callF 30 11 #[.int .i64 seed] hb11 (by kernel_rfl) (new_any seed _) ?_
      rintro _ w4 ⟨rfl, T4⟩
      have S4 : Sep w [] w4 := S1.trans T4
      clear T4 S1
      refine J.head (.tuple #[.agg #[.int .i64 seed, .int .i64 0, .int .i64 0, .bool false, .bool false], .int .i64 0]) (by first | (simp only [newV, zeroQ, fk3, reduceCtorEq, ↓reduceIte]; done) | simp [newV, zeroQ, fk3]) ?_
      refine J.run 3 K8_8 [(32, .int .i64 0), (31, .agg #[.int .i64 seed, .int .i64 0, .int .i64 0, .bool false, .bool false]), (1, .slice pa len cap)] w4 (by kernel_rfl) ?_
      refine J.new S4 5 [.int .i64 0, .int .i64 0, .int .i64 0, .bool false, .bool false] 31 (by kernel_rfl) ?_
      intro b1 w5 S5
      refine J.stBox S5 0 31 0 (.agg #[.int .i64 seed, .int .i64 0, .int .i64 0, .bool false, .bool false]) [.int .i64 seed, .int .i64 0, .int .i64 0, .bool false, .bool false] [box b1 [.int .i64 seed, .int .i64 0, .int .i64 0, .bool false, .bool false] 31] (by kernel_rfl) rfl (by kernel_rfl) (by kernel_rfl) rfl ?_
      intro w6 S6
      refine J.run 23 K8_9 [(37, .int .i64 0), (36, .int .i64 (len : Int)), (35, .slice pa len cap), (7, .int .i64 0), (5, .pointer (some ⟨b1, 0, none⟩))] w6 (by kernel_rfl) ?_
      have L8_1 : ∀ (m : Nat) (q : Int) (a : Int) (e : Int) (o : Bool) (f : Bool) (now : Int) (i : Int) (w7 : World), (0 ≤ i) → (i ≤ (len : Int)) → (0 ≤ now ∧ now ≤ i * 65535) → (a ≤ now) → (validB q a e o f = true) → Sep w [box b1 [.int .i64 q, .int .i64 a, .int .i64 e, .bool o, .bool f] 31] w7 → ((len : Int) - i).toNat = m → J Try.prog 8 144 R K8_9 [(37, .int .i64 i), (36, .int .i64 (len : Int)), (35, .slice pa len cap), (7, .int .i64 now), (5, .pointer (some ⟨b1, 0, none⟩))] w7 := by
        intro m
        induction m using Nat.strongRecOn with
        | _ m ih1 =>
        intro q a e o f now i w7 h0 h1 hn ha hv S7 hm1
        have hvb := validB_bounds hv
        obtain ⟨hpl2, hpl3, hpl4⟩ := act_all hpl i.toNat
        have hnx := nextF_bounds hvb.1
        refine J.run 5 K8_10 [(38, .bool (decide (i < (len : Int)))), (37, .int .i64 i), (36, .int .i64 (len : Int)), (35, .slice pa len cap), (7, .int .i64 now), (5, .pointer (some ⟨b1, 0, none⟩))] w7 (by kernel_rfl) ?_
        by_cases fk4 : i < (len : Int)
        · skip
          refine J.head (.bool true) (congrArg Value.bool (decide_eq_true fk4)) ?_
          refine J.run 6 K8_11 [(37, .int .i64 i), (36, .int .i64 (len : Int)), (35, .slice pa len cap), (7, .int .i64 now), (5, .pointer (some ⟨b1, 0, none⟩))] w7 (by kernel_rfl) ?_
          obtain ⟨p1, hp1, hc1⟩ := hP.at (⟨0, 0, 0⟩ : Act) (i).toNat (by omega)
          refine J.ok (OK.index 39 48 3 pa p1 len (i).toNat i (p1.add ((i).toNat * 3)) (by kernel_rfl) (by kernel_rfl) hp1 (by omega) (by omega) rfl) ?_
          refine J.ok (OK.ldCells 40 50 (p1.add ((i).toNat * 3)) [.int .u8 ((l.getD (i).toNat (⟨0, 0, 0⟩ : Act)).gKind), .int .u16 ((l.getD (i).toNat (⟨0, 0, 0⟩ : Act)).gAfter), .int .u16 ((l.getD (i).toNat (⟨0, 0, 0⟩ : Act)).gAnswer)] (by kernel_rfl) (by kernel_rfl) (by kernel_rfl) (fun j_ v_ hj_ => S7.cell (hc1 j_ v_ hj_))) ?_
          refine J.new S7 9 [.int .u8 0, .int .u16 0, .int .u16 0] 50 (by kernel_rfl) ?_
          intro b2 w8 S8
          refine J.stBox S8 0 50 0 (.agg #[.int .u8 ((l.getD (i).toNat (⟨0, 0, 0⟩ : Act)).gKind), .int .u16 ((l.getD (i).toNat (⟨0, 0, 0⟩ : Act)).gAfter), .int .u16 ((l.getD (i).toNat (⟨0, 0, 0⟩ : Act)).gAnswer)]) [.int .u8 ((l.getD (i).toNat (⟨0, 0, 0⟩ : Act)).gKind), .int .u16 ((l.getD (i).toNat (⟨0, 0, 0⟩ : Act)).gAfter), .int .u16 ((l.getD (i).toNat (⟨0, 0, 0⟩ : Act)).gAnswer)] [box b2 [.int .u8 ((l.getD (i).toNat (⟨0, 0, 0⟩ : Act)).gKind), .int .u16 ((l.getD (i).toNat (⟨0, 0, 0⟩ : Act)).gAfter), .int .u16 ((l.getD (i).toNat (⟨0, 0, 0⟩ : Act)).gAnswer)] 50, box b1 [.int .i64 q, .int .i64 a, .int .i64 e, .bool o, .bool f] 31] (by kernel_rfl) rfl (by kernel_rfl) (by kernel_rfl) rfl ?_
          intro w9 S9
          refine J.run 5 K8_12 [(42, .pointer (some ⟨b2, 1, none⟩)), (41, .int .i64 now), (9, .pointer (some ⟨b2, 0, none⟩)), (37, .int .i64 i), (36, .int .i64 (len : Int)), (35, .slice pa len cap), (5, .pointer (some ⟨b1, 0, none⟩))] w9 (by kernel_rfl) ?_
          refine J.ok (OK.ldBox S9 0 43 22 1 (.int .u16 ((l.getD (i).toNat (⟨0, 0, 0⟩ : Act)).gAfter)) (by kernel_rfl) rfl (by kernel_rfl)) ?_
          refine J.run 1 K8_13 [(44, .int .i64 (IntKind.wrap .i64 ((l.getD (i).toNat (⟨0, 0, 0⟩ : Act)).gAfter))), (41, .int .i64 now), (9, .pointer (some ⟨b2, 0, none⟩)), (37, .int .i64 i), (36, .int .i64 (len : Int)), (35, .slice pa len cap), (5, .pointer (some ⟨b1, 0, none⟩))] w9 (by kernel_rfl) ?_
          refine J.head (.int .i64 ((l.getD (i).toNat (⟨0, 0, 0⟩ : Act)).gAfter)) (congrArg (Value.int .i64) (IntWalk.i64_in _ (by omega))) ?_
          refine J.run 1 K8_14 [(45, .int .i64 (IntKind.wrap .i64 (now + ((l.getD (i).toNat (⟨0, 0, 0⟩ : Act)).gAfter)))), (9, .pointer (some ⟨b2, 0, none⟩)), (37, .int .i64 i), (36, .int .i64 (len : Int)), (35, .slice pa len cap), (5, .pointer (some ⟨b1, 0, none⟩))] w9 (by kernel_rfl) ?_
          refine J.head (.int .i64 (now + ((l.getD (i).toNat (⟨0, 0, 0⟩ : Act)).gAfter))) (congrArg (Value.int .i64) (IntWalk.i64_in _ (by omega))) ?_
          refine J.run 4 K8_15 [(7, .int .i64 (now + ((l.getD (i).toNat (⟨0, 0, 0⟩ : Act)).gAfter))), (9, .pointer (some ⟨b2, 0, none⟩)), (37, .int .i64 i), (36, .int .i64 (len : Int)), (35, .slice pa len cap), (5, .pointer (some ⟨b1, 0, none⟩))] w9 (by kernel_rfl) ?_
          refine J.ok (OK.ldBox S9 1 46 31 0 (.agg #[.int .i64 q, .int .i64 a, .int .i64 e, .bool o, .bool f]) (by kernel_rfl) rfl (by kernel_rfl)) ?_
          refine J.new S9 10 [.int .i64 0, .int .i64 0, .int .i64 0, .bool false, .bool false] 31 (by kernel_rfl) ?_
          intro b3 w10 S10
          refine J.stBox S10 0 31 0 (.agg #[.int .i64 q, .int .i64 a, .int .i64 e, .bool o, .bool f]) [.int .i64 q, .int .i64 a, .int .i64 e, .bool o, .bool f] [box b3 [.int .i64 q, .int .i64 a, .int .i64 e, .bool o, .bool f] 31, box b2 [.int .u8 ((l.getD (i).toNat (⟨0, 0, 0⟩ : Act)).gKind), .int .u16 ((l.getD (i).toNat (⟨0, 0, 0⟩ : Act)).gAfter), .int .u16 ((l.getD (i).toNat (⟨0, 0, 0⟩ : Act)).gAnswer)] 50, box b1 [.int .i64 q, .int .i64 a, .int .i64 e, .bool o, .bool f] 31] (by kernel_rfl) rfl (by kernel_rfl) (by kernel_rfl) rfl ?_
          intro w11 S11
          refine J.run 6 K8_16 [(47, .pointer (some ⟨b2, 0, none⟩)), (11, .int .i64 0), (10, .pointer (some ⟨b3, 0, none⟩)), (7, .int .i64 (now + ((l.getD (i).toNat (⟨0, 0, 0⟩ : Act)).gAfter))), (9, .pointer (some ⟨b2, 0, none⟩)), (37, .int .i64 i), (36, .int .i64 (len : Int)), (35, .slice pa len cap), (5, .pointer (some ⟨b1, 0, none⟩))] w11 (by kernel_rfl) ?_
          refine J.ok (OK.ldBox S11 1 48 5 0 (.int .u8 ((l.getD (i).toNat (⟨0, 0, 0⟩ : Act)).gKind)) (by kernel_rfl) rfl (by kernel_rfl)) ?_
          refine J.run 1 K8_17 [(49, .int .u8 (Int.tmod ((l.getD (i).toNat (⟨0, 0, 0⟩ : Act)).gKind) 4)), (11, .int .i64 0), (10, .pointer (some ⟨b3, 0, none⟩)), (7, .int .i64 (now + ((l.getD (i).toNat (⟨0, 0, 0⟩ : Act)).gAfter))), (9, .pointer (some ⟨b2, 0, none⟩)), (37, .int .i64 i), (36, .int .i64 (len : Int)), (35, .slice pa len cap), (5, .pointer (some ⟨b1, 0, none⟩))] w11 (by kernel_rfl) ?_
          refine J.head (.int .u8 (((l.getD (i).toNat (⟨0, 0, 0⟩ : Act)).gKind) % 4)) (congrArg (Value.int .u8) (IntWalk.rem_in _ _ (by omega))) ?_
          refine J.run 7 K8_18 [(50, .bool ((((l.getD (i).toNat (⟨0, 0, 0⟩ : Act)).gKind) % 4) == 0)), (49, .int .u8 (((l.getD (i).toNat (⟨0, 0, 0⟩ : Act)).gKind) % 4)), (11, .int .i64 0), (10, .pointer (some ⟨b3, 0, none⟩)), (7, .int .i64 (now + ((l.getD (i).toNat (⟨0, 0, 0⟩ : Act)).gAfter))), (9, .pointer (some ⟨b2, 0, none⟩)), (37, .int .i64 i), (36, .int .i64 (len : Int)), (35, .slice pa len cap), (5, .pointer (some ⟨b1, 0, none⟩))] w11 (by kernel_rfl) ?_
          by_cases fk5 : (((l.getD (i).toNat (⟨0, 0, 0⟩ : Act)).gKind) % 4) = 0
          · skip
            refine J.head (.bool true) (congrArg Value.bool (beq_iff_eq.2 fk5)) ?_
            refine J.run 3 K8_19 [(10, .pointer (some ⟨b3, 0, none⟩)), (7, .int .i64 (now + ((l.getD (i).toNat (⟨0, 0, 0⟩ : Act)).gAfter))), (9, .pointer (some ⟨b2, 0, none⟩)), (37, .int .i64 i), (36, .int .i64 (len : Int)), (35, .slice pa len cap), (5, .pointer (some ⟨b1, 0, none⟩))] w11 (by kernel_rfl) ?_
            refine J.ok (OK.ldBox S11 2 53 31 0 (.agg #[.int .i64 q, .int .i64 a, .int .i64 e, .bool o, .bool f]) (by kernel_rfl) rfl (by kernel_rfl)) ?_
            refine J.run 1 K8_20 [(54, .int .i64 (now + ((l.getD (i).toNat (⟨0, 0, 0⟩ : Act)).gAfter))), (53, .agg #[.int .i64 q, .int .i64 a, .int .i64 e, .bool o, .bool f]), (10, .pointer (some ⟨b3, 0, none⟩)), (7, .int .i64 (now + ((l.getD (i).toNat (⟨0, 0, 0⟩ : Act)).gAfter))), (9, .pointer (some ⟨b2, 0, none⟩)), (37, .int .i64 i), (36, .int .i64 (len : Int)), (35, .slice pa len cap), (5, .pointer (some ⟨b1, 0, none⟩))] w11 (by kernel_rfl) ?_
            have fk6 : (validB q a e o f) = true := hv
            have fk7 : (instantB (now + ((l.getD (i).toNat (⟨0, 0, 0⟩ : Act)).gAfter))) = true := instantB_iff.2 (by omega)
            rcases Bool.eq_false_or_eq_true o with fk8 | fk8
            · skip
              refine J.callF 55 17 #[.agg #[.int .i64 q, .int .i64 a, .int .i64 e, .bool o, .bool f], .int .i64 (now + ((l.getD (i).toNat (⟨0, 0, 0⟩ : Act)).gAfter))] hb17 (by kernel_rfl) (ask_any q a e o f (now + ((l.getD (i).toNat (⟨0, 0, 0⟩ : Act)).gAfter)) _) ?_
              rintro _ w12 ⟨rfl, T5⟩
              have S12 : Sep w [box b3 [.int .i64 q, .int .i64 a, .int .i64 e, .bool o, .bool f] 31, box b2 [.int .u8 ((l.getD (i).toNat (⟨0, 0, 0⟩ : Act)).gKind), .int .u16 ((l.getD (i).toNat (⟨0, 0, 0⟩ : Act)).gAfter), .int .u16 ((l.getD (i).toNat (⟨0, 0, 0⟩ : Act)).gAnswer)] 50, box b1 [.int .i64 q, .int .i64 a, .int .i64 e, .bool o, .bool f] 31] w12 := S11.trans T5
              clear T5 S11
              refine J.head (.tuple #[.agg #[.int .i64 0, .int .i64 0, .int .i64 0, .bool false, .bool false], .int .i64 0, .int .i64 6]) (by (try simp only [askV, zeroQ, fk6, fk7]) <;> simp [askV, zeroQ, fk6, fk7, fk8]) ?_
              refine J.run 4 K8_21 [(58, .int .i64 6), (56, .agg #[.int .i64 0, .int .i64 0, .int .i64 0, .bool false, .bool false]), (10, .pointer (some ⟨b3, 0, none⟩)), (7, .int .i64 (now + ((l.getD (i).toNat (⟨0, 0, 0⟩ : Act)).gAfter))), (9, .pointer (some ⟨b2, 0, none⟩)), (37, .int .i64 i), (36, .int .i64 (len : Int)), (35, .slice pa len cap), (5, .pointer (some ⟨b1, 0, none⟩))] w12 (by kernel_rfl) ?_
              refine J.stBox S12 0 31 0 (.agg #[.int .i64 0, .int .i64 0, .int .i64 0, .bool false, .bool false]) [.int .i64 0, .int .i64 0, .int .i64 0, .bool false, .bool false] [box b3 [.int .i64 0, .int .i64 0, .int .i64 0, .bool false, .bool false] 31, box b2 [.int .u8 ((l.getD (i).toNat (⟨0, 0, 0⟩ : Act)).gKind), .int .u16 ((l.getD (i).toNat (⟨0, 0, 0⟩ : Act)).gAfter), .int .u16 ((l.getD (i).toNat (⟨0, 0, 0⟩ : Act)).gAnswer)] 50, box b1 [.int .i64 q, .int .i64 a, .int .i64 e, .bool o, .bool f] 31] (by kernel_rfl) rfl (by kernel_rfl) (by kernel_rfl) rfl ?_
              intro w13 S13
              refine J.run 3 K8_22 [(11, .int .i64 6), (10, .pointer (some ⟨b3, 0, none⟩)), (7, .int .i64 (now + ((l.getD (i).toNat (⟨0, 0, 0⟩ : Act)).gAfter))), (9, .pointer (some ⟨b2, 0, none⟩)), (37, .int .i64 i), (36, .int .i64 (len : Int)), (35, .slice pa len cap), (5, .pointer (some ⟨b1, 0, none⟩))] w13 (by kernel_rfl) ?_
              have W1 : ∀ (w14 : World), Sep w [box b3 [.int .i64 0, .int .i64 0, .int .i64 0, .bool false, .bool false] 31, box b2 [.int .u8 ((l.getD (i).toNat (⟨0, 0, 0⟩ : Act)).gKind), .int .u16 ((l.getD (i).toNat (⟨0, 0, 0⟩ : Act)).gAfter), .int .u16 ((l.getD (i).toNat (⟨0, 0, 0⟩ : Act)).gAnswer)] 50, box b1 [.int .i64 q, .int .i64 a, .int .i64 e, .bool o, .bool f] 31] w14 → WA Try.prog 8 144 R K8_22 0 #[true, true, true, true, true, true, true, true, true, true] [(5, .pointer (some ⟨b1, 0, none⟩)), (7, .int .i64 (now + ((l.getD (i).toNat (⟨0, 0, 0⟩ : Act)).gAfter))), (9, .pointer (some ⟨b2, 0, none⟩)), (10, .pointer (some ⟨b3, 0, none⟩)), (11, .int .i64 6), (35, .slice pa len cap), (36, .int .i64 (len : Int)), (37, .int .i64 i), (59, .int .i64 6), (60, .bool false), (61, .bool false), (62, undef), (63, undef), (64, undef), (65, undef), (66, undef), (67, undef), (68, .bool false)] w14 := by
                intro w14 S14
                refine WA.done (by kernel_rfl) ?_
                refine J.run 0 (rRest K8_22) [(5, .pointer (some ⟨b1, 0, none⟩)), (7, .int .i64 (now + ((l.getD (i).toNat (⟨0, 0, 0⟩ : Act)).gAfter))), (9, .pointer (some ⟨b2, 0, none⟩)), (10, .pointer (some ⟨b3, 0, none⟩)), (11, .int .i64 6), (35, .slice pa len cap), (36, .int .i64 (len : Int)), (37, .int .i64 i), (68, .bool false)] w14 (by kernel_rfl) ?_
                refine J.run 13 K8_23 [(5, .pointer (some ⟨b1, 0, none⟩)), (7, .int .i64 (now + ((l.getD (i).toNat (⟨0, 0, 0⟩ : Act)).gAfter))), (10, .pointer (some ⟨b3, 0, none⟩)), (11, .int .i64 6), (35, .slice pa len cap), (36, .int .i64 (len : Int)), (37, .int .i64 i)] w14 (by kernel_rfl) ?_
                refine J.ok (OK.ldBox S14 0 110 31 0 (.agg #[.int .i64 0, .int .i64 0, .int .i64 0, .bool false, .bool false]) (by kernel_rfl) rfl (by kernel_rfl)) ?_
                refine J.run 1 K8_24 [(111, .agg #[.int .i64 0, .int .i64 0, .int .i64 0, .bool false, .bool false]), (110, .agg #[.int .i64 0, .int .i64 0, .int .i64 0, .bool false, .bool false]), (5, .pointer (some ⟨b1, 0, none⟩)), (7, .int .i64 (now + ((l.getD (i).toNat (⟨0, 0, 0⟩ : Act)).gAfter))), (11, .int .i64 6), (35, .slice pa len cap), (36, .int .i64 (len : Int)), (37, .int .i64 i)] w14 (by kernel_rfl) ?_
                refine J.ok (OK.eqS 112 false 31 #[.int .i64 0, .int .i64 0, .int .i64 0, .bool false, .bool false] #[.int .i64 0, .int .i64 0, .int .i64 0, .bool false, .bool false] (((0 : Int) == 0) && (((0 : Int) == 0) && (((0 : Int) == 0) && ((false == false) && ((false == false) && true))))) (by kernel_rfl) (by kernel_rfl) (by kernel_rfl) false (by simp)) ?_
                refine J.run 10 K8_25 [(143, .int .i64 (IntKind.wrap .i64 (i + 1))), (5, .pointer (some ⟨b1, 0, none⟩)), (7, .int .i64 (now + ((l.getD (i).toNat (⟨0, 0, 0⟩ : Act)).gAfter))), (35, .slice pa len cap), (36, .int .i64 (len : Int))] w14 (by kernel_rfl) ?_
                refine J.head (.int .i64 (i + 1)) (congrArg (Value.int .i64) (IntWalk.i64_in _ (by omega))) ?_
                refine J.run 3 K8_9 [(37, .int .i64 (i + 1)), (5, .pointer (some ⟨b1, 0, none⟩)), (7, .int .i64 (now + ((l.getD (i).toNat (⟨0, 0, 0⟩ : Act)).gAfter))), (35, .slice pa len cap), (36, .int .i64 (len : Int))] w14 (by kernel_rfl) ?_
                have S15 : Sep w [box b3 [.int .i64 0, .int .i64 0, .int .i64 0, .bool false, .bool false] 31, box b1 [.int .i64 q, .int .i64 a, .int .i64 e, .bool o, .bool f] 31] w14 := S14.erase 1
                clear S14
                have S16 : Sep w [box b1 [.int .i64 q, .int .i64 a, .int .i64 e, .bool o, .bool f] 31] w14 := S15.erase 0
                clear S15
                refine J.run 0 K8_9 [(37, .int .i64 (i + 1)), (36, .int .i64 (len : Int)), (35, .slice pa len cap), (7, .int .i64 (now + ((l.getD (i).toNat (⟨0, 0, 0⟩ : Act)).gAfter))), (5, .pointer (some ⟨b1, 0, none⟩))] w14 (by kernel_rfl) ?_
                exact ih1 _ (show ((len : Int) - (i + 1)).toNat < m from by omega) q a e o f (now + ((l.getD (i).toNat (⟨0, 0, 0⟩ : Act)).gAfter)) (i + 1) w14 (by omega) (by omega) (by omega) (by omega) (fk6) S16 rfl
              refine J.drawAny S13 10 #[false, false, false, false, false, false, false, false, false, false] Try.mixed (by kernel_rfl) (by kernel_rfl) (by kernel_rfl) ?_
              intro w15 S17
              refine WA.take 0 59 (.int .i64 6) #[true, false, false, false, false, false, false, false, false, false] (by kernel_rfl) (by kernel_rfl) (by kernel_rfl) (fun _ => by kernel_rfl) (by kernel_rfl) ?_
              refine WA.take 1 60 (.bool false) #[true, true, false, false, false, false, false, false, false, false] (by kernel_rfl) (by kernel_rfl) (by kernel_rfl) (fun _ => by kernel_rfl) (by kernel_rfl) ?_
              refine WA.take 2 61 (.bool false) #[true, true, true, false, false, false, false, false, false, false] (by kernel_rfl) (by kernel_rfl) (by kernel_rfl) (fun _ => by kernel_rfl) (by kernel_rfl) ?_
              refine WA.takePass 3 (some 62) #[true, true, true, true, false, false, false, false, false, false] (by kernel_rfl) (by kernel_rfl) (by kernel_rfl) (by kernel_rfl) (by kernel_rfl) ?_
              refine WA.takePass 4 (some 63) #[true, true, true, true, true, false, false, false, false, false] (by kernel_rfl) (by kernel_rfl) (by kernel_rfl) (by kernel_rfl) (by kernel_rfl) ?_
              refine WA.takePass 5 (some 64) #[true, true, true, true, true, true, false, false, false, false] (by kernel_rfl) (by kernel_rfl) (by kernel_rfl) (by kernel_rfl) (by kernel_rfl) ?_
              refine WA.takePass 6 (some 65) #[true, true, true, true, true, true, true, false, false, false] (by kernel_rfl) (by kernel_rfl) (by kernel_rfl) (by kernel_rfl) (by kernel_rfl) ?_
              refine WA.takePass 7 (some 66) #[true, true, true, true, true, true, true, true, false, false] (by kernel_rfl) (by kernel_rfl) (by kernel_rfl) (by kernel_rfl) (by kernel_rfl) ?_
              refine WA.takePass 8 (some 67) #[true, true, true, true, true, true, true, true, true, false] (by kernel_rfl) (by kernel_rfl) (by kernel_rfl) (by kernel_rfl) (by kernel_rfl) ?_
              refine WA.take 9 68 (.bool false) #[true, true, true, true, true, true, true, true, true, true] (by kernel_rfl) (by kernel_rfl) (by kernel_rfl) (fun _ => by kernel_rfl) (by kernel_rfl) ?_
              refine WA.weaken (env' := [(5, .pointer (some ⟨b1, 0, none⟩)), (7, .int .i64 (now + ((l.getD (i).toNat (⟨0, 0, 0⟩ : Act)).gAfter))), (9, .pointer (some ⟨b2, 0, none⟩)), (10, .pointer (some ⟨b3, 0, none⟩)), (11, .int .i64 6), (35, .slice pa len cap), (36, .int .i64 (len : Int)), (37, .int .i64 i), (59, .int .i64 6), (60, .bool false), (61, .bool false), (62, undef), (63, undef), (64, undef), (65, undef), (66, undef), (67, undef), (68, .bool false)]) (by kernel_rfl) ?_
              exact W1 w15 S17
            · skip
              rcases Bool.eq_false_or_eq_true f with fk9 | fk9
              · skip
                refine J.callF 55 17 #[.agg #[.int .i64 q, .int .i64 a, .int .i64 e, .bool o, .bool f], .int .i64 (now + ((l.getD (i).toNat (⟨0, 0, 0⟩ : Act)).gAfter))] hb17 (by kernel_rfl) (ask_any q a e o f (now + ((l.getD (i).toNat (⟨0, 0, 0⟩ : Act)).gAfter)) _) ?_
                rintro _ w16 ⟨rfl, T6⟩
                have S18 : Sep w [box b3 [.int .i64 q, .int .i64 a, .int .i64 e, .bool o, .bool f] 31, box b2 [.int .u8 ((l.getD (i).toNat (⟨0, 0, 0⟩ : Act)).gKind), .int .u16 ((l.getD (i).toNat (⟨0, 0, 0⟩ : Act)).gAfter), .int .u16 ((l.getD (i).toNat (⟨0, 0, 0⟩ : Act)).gAnswer)] 50, box b1 [.int .i64 q, .int .i64 a, .int .i64 e, .bool o, .bool f] 31] w16 := S11.trans T6
                clear T6 S11
                refine J.head (.tuple #[.agg #[.int .i64 0, .int .i64 0, .int .i64 0, .bool false, .bool false], .int .i64 0, .int .i64 6]) (by (try simp only [askV, zeroQ, fk6, fk7]) <;> simp [askV, zeroQ, fk6, fk7, fk8, fk9]) ?_
                refine J.run 4 K8_26 [(58, .int .i64 6), (56, .agg #[.int .i64 0, .int .i64 0, .int .i64 0, .bool false, .bool false]), (10, .pointer (some ⟨b3, 0, none⟩)), (7, .int .i64 (now + ((l.getD (i).toNat (⟨0, 0, 0⟩ : Act)).gAfter))), (9, .pointer (some ⟨b2, 0, none⟩)), (37, .int .i64 i), (36, .int .i64 (len : Int)), (35, .slice pa len cap), (5, .pointer (some ⟨b1, 0, none⟩))] w16 (by kernel_rfl) ?_
                refine J.stBox S18 0 31 0 (.agg #[.int .i64 0, .int .i64 0, .int .i64 0, .bool false, .bool false]) [.int .i64 0, .int .i64 0, .int .i64 0, .bool false, .bool false] [box b3 [.int .i64 0, .int .i64 0, .int .i64 0, .bool false, .bool false] 31, box b2 [.int .u8 ((l.getD (i).toNat (⟨0, 0, 0⟩ : Act)).gKind), .int .u16 ((l.getD (i).toNat (⟨0, 0, 0⟩ : Act)).gAfter), .int .u16 ((l.getD (i).toNat (⟨0, 0, 0⟩ : Act)).gAnswer)] 50, box b1 [.int .i64 q, .int .i64 a, .int .i64 e, .bool o, .bool f] 31] (by kernel_rfl) rfl (by kernel_rfl) (by kernel_rfl) rfl ?_
                intro w17 S19
                refine J.run 3 K8_27 [(11, .int .i64 6), (10, .pointer (some ⟨b3, 0, none⟩)), (7, .int .i64 (now + ((l.getD (i).toNat (⟨0, 0, 0⟩ : Act)).gAfter))), (9, .pointer (some ⟨b2, 0, none⟩)), (37, .int .i64 i), (36, .int .i64 (len : Int)), (35, .slice pa len cap), (5, .pointer (some ⟨b1, 0, none⟩))] w17 (by kernel_rfl) ?_
                have W2 : ∀ (w18 : World), Sep w [box b3 [.int .i64 0, .int .i64 0, .int .i64 0, .bool false, .bool false] 31, box b2 [.int .u8 ((l.getD (i).toNat (⟨0, 0, 0⟩ : Act)).gKind), .int .u16 ((l.getD (i).toNat (⟨0, 0, 0⟩ : Act)).gAfter), .int .u16 ((l.getD (i).toNat (⟨0, 0, 0⟩ : Act)).gAnswer)] 50, box b1 [.int .i64 q, .int .i64 a, .int .i64 e, .bool o, .bool f] 31] w18 → WA Try.prog 8 144 R K8_27 0 #[true, true, true, true, true, true, true, true, true, true] [(5, .pointer (some ⟨b1, 0, none⟩)), (7, .int .i64 (now + ((l.getD (i).toNat (⟨0, 0, 0⟩ : Act)).gAfter))), (9, .pointer (some ⟨b2, 0, none⟩)), (10, .pointer (some ⟨b3, 0, none⟩)), (11, .int .i64 6), (35, .slice pa len cap), (36, .int .i64 (len : Int)), (37, .int .i64 i), (59, .int .i64 6), (60, .bool false), (61, .bool false), (62, undef), (63, undef), (64, undef), (65, undef), (66, undef), (67, undef), (68, .bool false)] w18 := by
                  intro w18 S20
                  refine WA.done (by kernel_rfl) ?_
                  refine J.run 0 (rRest K8_27) [(5, .pointer (some ⟨b1, 0, none⟩)), (7, .int .i64 (now + ((l.getD (i).toNat (⟨0, 0, 0⟩ : Act)).gAfter))), (9, .pointer (some ⟨b2, 0, none⟩)), (10, .pointer (some ⟨b3, 0, none⟩)), (11, .int .i64 6), (35, .slice pa len cap), (36, .int .i64 (len : Int)), (37, .int .i64 i), (68, .bool false)] w18 (by kernel_rfl) ?_
                  refine J.run 13 K8_28 [(5, .pointer (some ⟨b1, 0, none⟩)), (7, .int .i64 (now + ((l.getD (i).toNat (⟨0, 0, 0⟩ : Act)).gAfter))), (10, .pointer (some ⟨b3, 0, none⟩)), (11, .int .i64 6), (35, .slice pa len cap), (36, .int .i64 (len : Int)), (37, .int .i64 i)] w18 (by kernel_rfl) ?_
                  refine J.ok (OK.ldBox S20 0 110 31 0 (.agg #[.int .i64 0, .int .i64 0, .int .i64 0, .bool false, .bool false]) (by kernel_rfl) rfl (by kernel_rfl)) ?_
                  refine J.run 1 K8_29 [(111, .agg #[.int .i64 0, .int .i64 0, .int .i64 0, .bool false, .bool false]), (110, .agg #[.int .i64 0, .int .i64 0, .int .i64 0, .bool false, .bool false]), (5, .pointer (some ⟨b1, 0, none⟩)), (7, .int .i64 (now + ((l.getD (i).toNat (⟨0, 0, 0⟩ : Act)).gAfter))), (11, .int .i64 6), (35, .slice pa len cap), (36, .int .i64 (len : Int)), (37, .int .i64 i)] w18 (by kernel_rfl) ?_
                  refine J.ok (OK.eqS 112 false 31 #[.int .i64 0, .int .i64 0, .int .i64 0, .bool false, .bool false] #[.int .i64 0, .int .i64 0, .int .i64 0, .bool false, .bool false] (((0 : Int) == 0) && (((0 : Int) == 0) && (((0 : Int) == 0) && ((false == false) && ((false == false) && true))))) (by kernel_rfl) (by kernel_rfl) (by kernel_rfl) false (by simp)) ?_
                  refine J.run 10 K8_30 [(143, .int .i64 (IntKind.wrap .i64 (i + 1))), (5, .pointer (some ⟨b1, 0, none⟩)), (7, .int .i64 (now + ((l.getD (i).toNat (⟨0, 0, 0⟩ : Act)).gAfter))), (35, .slice pa len cap), (36, .int .i64 (len : Int))] w18 (by kernel_rfl) ?_
                  refine J.head (.int .i64 (i + 1)) (congrArg (Value.int .i64) (IntWalk.i64_in _ (by omega))) ?_
                  refine J.run 3 K8_9 [(37, .int .i64 (i + 1)), (5, .pointer (some ⟨b1, 0, none⟩)), (7, .int .i64 (now + ((l.getD (i).toNat (⟨0, 0, 0⟩ : Act)).gAfter))), (35, .slice pa len cap), (36, .int .i64 (len : Int))] w18 (by kernel_rfl) ?_
                  have S21 : Sep w [box b3 [.int .i64 0, .int .i64 0, .int .i64 0, .bool false, .bool false] 31, box b1 [.int .i64 q, .int .i64 a, .int .i64 e, .bool o, .bool f] 31] w18 := S20.erase 1
                  clear S20
                  have S22 : Sep w [box b1 [.int .i64 q, .int .i64 a, .int .i64 e, .bool o, .bool f] 31] w18 := S21.erase 0
                  clear S21
                  refine J.run 0 K8_9 [(37, .int .i64 (i + 1)), (36, .int .i64 (len : Int)), (35, .slice pa len cap), (7, .int .i64 (now + ((l.getD (i).toNat (⟨0, 0, 0⟩ : Act)).gAfter))), (5, .pointer (some ⟨b1, 0, none⟩))] w18 (by kernel_rfl) ?_
                  exact ih1 _ (show ((len : Int) - (i + 1)).toNat < m from by omega) q a e o f (now + ((l.getD (i).toNat (⟨0, 0, 0⟩ : Act)).gAfter)) (i + 1) w18 (by omega) (by omega) (by omega) (by omega) (fk6) S22 rfl
                refine J.drawAny S19 10 #[false, false, false, false, false, false, false, false, false, false] Try.mixed (by kernel_rfl) (by kernel_rfl) (by kernel_rfl) ?_
                intro w19 S23
                refine WA.take 0 59 (.int .i64 6) #[true, false, false, false, false, false, false, false, false, false] (by kernel_rfl) (by kernel_rfl) (by kernel_rfl) (fun _ => by kernel_rfl) (by kernel_rfl) ?_
                refine WA.take 1 60 (.bool false) #[true, true, false, false, false, false, false, false, false, false] (by kernel_rfl) (by kernel_rfl) (by kernel_rfl) (fun _ => by kernel_rfl) (by kernel_rfl) ?_
                refine WA.take 2 61 (.bool false) #[true, true, true, false, false, false, false, false, false, false] (by kernel_rfl) (by kernel_rfl) (by kernel_rfl) (fun _ => by kernel_rfl) (by kernel_rfl) ?_
                refine WA.takePass 3 (some 62) #[true, true, true, true, false, false, false, false, false, false] (by kernel_rfl) (by kernel_rfl) (by kernel_rfl) (by kernel_rfl) (by kernel_rfl) ?_
                refine WA.takePass 4 (some 63) #[true, true, true, true, true, false, false, false, false, false] (by kernel_rfl) (by kernel_rfl) (by kernel_rfl) (by kernel_rfl) (by kernel_rfl) ?_
                refine WA.takePass 5 (some 64) #[true, true, true, true, true, true, false, false, false, false] (by kernel_rfl) (by kernel_rfl) (by kernel_rfl) (by kernel_rfl) (by kernel_rfl) ?_
                refine WA.takePass 6 (some 65) #[true, true, true, true, true, true, true, false, false, false] (by kernel_rfl) (by kernel_rfl) (by kernel_rfl) (by kernel_rfl) (by kernel_rfl) ?_
                refine WA.takePass 7 (some 66) #[true, true, true, true, true, true, true, true, false, false] (by kernel_rfl) (by kernel_rfl) (by kernel_rfl) (by kernel_rfl) (by kernel_rfl) ?_
                refine WA.takePass 8 (some 67) #[true, true, true, true, true, true, true, true, true, false] (by kernel_rfl) (by kernel_rfl) (by kernel_rfl) (by kernel_rfl) (by kernel_rfl) ?_
                refine WA.take 9 68 (.bool false) #[true, true, true, true, true, true, true, true, true, true] (by kernel_rfl) (by kernel_rfl) (by kernel_rfl) (fun _ => by kernel_rfl) (by kernel_rfl) ?_
                refine WA.weaken (env' := [(5, .pointer (some ⟨b1, 0, none⟩)), (7, .int .i64 (now + ((l.getD (i).toNat (⟨0, 0, 0⟩ : Act)).gAfter))), (9, .pointer (some ⟨b2, 0, none⟩)), (10, .pointer (some ⟨b3, 0, none⟩)), (11, .int .i64 6), (35, .slice pa len cap), (36, .int .i64 (len : Int)), (37, .int .i64 i), (59, .int .i64 6), (60, .bool false), (61, .bool false), (62, undef), (63, undef), (64, undef), (65, undef), (66, undef), (67, undef), (68, .bool false)]) (by kernel_rfl) ?_
                exact W2 w19 S23
              · skip
                refine J.callF 55 17 #[.agg #[.int .i64 q, .int .i64 a, .int .i64 e, .bool o, .bool f], .int .i64 (now + ((l.getD (i).toNat (⟨0, 0, 0⟩ : Act)).gAfter))] hb17 (by kernel_rfl) (ask_any q a e o f (now + ((l.getD (i).toNat (⟨0, 0, 0⟩ : Act)).gAfter)) _) ?_
                rintro _ w20 ⟨rfl, T7⟩
                have S24 : Sep w [box b3 [.int .i64 q, .int .i64 a, .int .i64 e, .bool o, .bool f] 31, box b2 [.int .u8 ((l.getD (i).toNat (⟨0, 0, 0⟩ : Act)).gKind), .int .u16 ((l.getD (i).toNat (⟨0, 0, 0⟩ : Act)).gAfter), .int .u16 ((l.getD (i).toNat (⟨0, 0, 0⟩ : Act)).gAnswer)] 50, box b1 [.int .i64 q, .int .i64 a, .int .i64 e, .bool o, .bool f] 31] w20 := S11.trans T7
                clear T7 S11
                refine J.head (.tuple #[.agg #[.int .i64 (nextF q), .int .i64 (now + ((l.getD (i).toNat (⟨0, 0, 0⟩ : Act)).gAfter)), .int .i64 e, .bool true, .bool false], .int .i64 (nextF q), .int .i64 0]) (by (try simp only [askV, zeroQ, fk6, fk7]) <;> simp [askV, zeroQ, fk6, fk7, fk8, fk9]) ?_
                refine J.run 4 K8_31 [(58, .int .i64 0), (56, .agg #[.int .i64 (nextF q), .int .i64 (now + ((l.getD (i).toNat (⟨0, 0, 0⟩ : Act)).gAfter)), .int .i64 e, .bool true, .bool false]), (10, .pointer (some ⟨b3, 0, none⟩)), (7, .int .i64 (now + ((l.getD (i).toNat (⟨0, 0, 0⟩ : Act)).gAfter))), (9, .pointer (some ⟨b2, 0, none⟩)), (37, .int .i64 i), (36, .int .i64 (len : Int)), (35, .slice pa len cap), (5, .pointer (some ⟨b1, 0, none⟩))] w20 (by kernel_rfl) ?_
                refine J.stBox S24 0 31 0 (.agg #[.int .i64 (nextF q), .int .i64 (now + ((l.getD (i).toNat (⟨0, 0, 0⟩ : Act)).gAfter)), .int .i64 e, .bool true, .bool false]) [.int .i64 (nextF q), .int .i64 (now + ((l.getD (i).toNat (⟨0, 0, 0⟩ : Act)).gAfter)), .int .i64 e, .bool true, .bool false] [box b3 [.int .i64 (nextF q), .int .i64 (now + ((l.getD (i).toNat (⟨0, 0, 0⟩ : Act)).gAfter)), .int .i64 e, .bool true, .bool false] 31, box b2 [.int .u8 ((l.getD (i).toNat (⟨0, 0, 0⟩ : Act)).gKind), .int .u16 ((l.getD (i).toNat (⟨0, 0, 0⟩ : Act)).gAfter), .int .u16 ((l.getD (i).toNat (⟨0, 0, 0⟩ : Act)).gAnswer)] 50, box b1 [.int .i64 q, .int .i64 a, .int .i64 e, .bool o, .bool f] 31] (by kernel_rfl) rfl (by kernel_rfl) (by kernel_rfl) rfl ?_
                intro w21 S25
                refine J.run 3 K8_32 [(11, .int .i64 0), (10, .pointer (some ⟨b3, 0, none⟩)), (7, .int .i64 (now + ((l.getD (i).toNat (⟨0, 0, 0⟩ : Act)).gAfter))), (9, .pointer (some ⟨b2, 0, none⟩)), (37, .int .i64 i), (36, .int .i64 (len : Int)), (35, .slice pa len cap), (5, .pointer (some ⟨b1, 0, none⟩))] w21 (by kernel_rfl) ?_
                have W3 : ∀ (w22 : World), Sep w [box b3 [.int .i64 (nextF q), .int .i64 (now + ((l.getD (i).toNat (⟨0, 0, 0⟩ : Act)).gAfter)), .int .i64 e, .bool true, .bool false] 31, box b2 [.int .u8 ((l.getD (i).toNat (⟨0, 0, 0⟩ : Act)).gKind), .int .u16 ((l.getD (i).toNat (⟨0, 0, 0⟩ : Act)).gAfter), .int .u16 ((l.getD (i).toNat (⟨0, 0, 0⟩ : Act)).gAnswer)] 50, box b1 [.int .i64 q, .int .i64 a, .int .i64 e, .bool o, .bool f] 31] w22 → WA Try.prog 8 144 R K8_32 0 #[true, true, true, true, true, true, true, true, true, true] [(5, .pointer (some ⟨b1, 0, none⟩)), (7, .int .i64 (now + ((l.getD (i).toNat (⟨0, 0, 0⟩ : Act)).gAfter))), (9, .pointer (some ⟨b2, 0, none⟩)), (10, .pointer (some ⟨b3, 0, none⟩)), (11, .int .i64 0), (35, .slice pa len cap), (36, .int .i64 (len : Int)), (37, .int .i64 i), (59, .int .i64 0), (60, .bool true), (61, .bool true), (62, .pointer (some ⟨b3, 0, none⟩)), (63, .int .i64 (nextF q)), (64, .pointer (some ⟨b1, 0, none⟩)), (65, .int .i64 q), (66, .int .i64 (nextF q)), (67, .bool false), (68, .bool false)] w22 := by
                  intro w22 S26
                  refine WA.done (by kernel_rfl) ?_
                  refine J.run 0 (rRest K8_32) [(5, .pointer (some ⟨b1, 0, none⟩)), (7, .int .i64 (now + ((l.getD (i).toNat (⟨0, 0, 0⟩ : Act)).gAfter))), (9, .pointer (some ⟨b2, 0, none⟩)), (10, .pointer (some ⟨b3, 0, none⟩)), (11, .int .i64 0), (35, .slice pa len cap), (36, .int .i64 (len : Int)), (37, .int .i64 i), (68, .bool false)] w22 (by kernel_rfl) ?_
                  refine J.run 14 K8_33 [(5, .pointer (some ⟨b1, 0, none⟩)), (7, .int .i64 (now + ((l.getD (i).toNat (⟨0, 0, 0⟩ : Act)).gAfter))), (9, .pointer (some ⟨b2, 0, none⟩)), (10, .pointer (some ⟨b3, 0, none⟩)), (35, .slice pa len cap), (36, .int .i64 (len : Int)), (37, .int .i64 i)] w22 (by kernel_rfl) ?_
                  refine J.ok (OK.ldBox S26 0 117 31 0 (.agg #[.int .i64 (nextF q), .int .i64 (now + ((l.getD (i).toNat (⟨0, 0, 0⟩ : Act)).gAfter)), .int .i64 e, .bool true, .bool false]) (by kernel_rfl) rfl (by kernel_rfl)) ?_
                  refine J.callF 118 23 #[.agg #[.int .i64 (nextF q), .int .i64 (now + ((l.getD (i).toNat (⟨0, 0, 0⟩ : Act)).gAfter)), .int .i64 e, .bool true, .bool false]] hb23 (by kernel_rfl) (valid_any (nextF q) (now + ((l.getD (i).toNat (⟨0, 0, 0⟩ : Act)).gAfter)) e true false _) ?_
                  rintro _ w23 ⟨rfl, T8⟩
                  have S27 : Sep w [box b3 [.int .i64 (nextF q), .int .i64 (now + ((l.getD (i).toNat (⟨0, 0, 0⟩ : Act)).gAfter)), .int .i64 e, .bool true, .bool false] 31, box b2 [.int .u8 ((l.getD (i).toNat (⟨0, 0, 0⟩ : Act)).gKind), .int .u16 ((l.getD (i).toNat (⟨0, 0, 0⟩ : Act)).gAfter), .int .u16 ((l.getD (i).toNat (⟨0, 0, 0⟩ : Act)).gAnswer)] 50, box b1 [.int .i64 q, .int .i64 a, .int .i64 e, .bool o, .bool f] 31] w23 := S26.trans T8
                  clear T8 S26
                  refine J.run 2 K8_34 [(120, .bool (!(validB (nextF q) (now + ((l.getD (i).toNat (⟨0, 0, 0⟩ : Act)).gAfter)) e true false))), (5, .pointer (some ⟨b1, 0, none⟩)), (7, .int .i64 (now + ((l.getD (i).toNat (⟨0, 0, 0⟩ : Act)).gAfter))), (9, .pointer (some ⟨b2, 0, none⟩)), (10, .pointer (some ⟨b3, 0, none⟩)), (35, .slice pa len cap), (36, .int .i64 (len : Int)), (37, .int .i64 i)] w23 (by kernel_rfl) ?_
                  have fk11 : (validB (nextF q) (now + ((l.getD (i).toNat (⟨0, 0, 0⟩ : Act)).gAfter)) e true false) = true := valid_ask hv fk9 (by omega)
                  refine J.head (.bool false) (congrArg Value.bool (by rw [fk11]; rfl)) ?_
                  refine J.run 1 K8_35 [(121, .pointer (some ⟨b1, 4, none⟩)), (120, .bool false), (5, .pointer (some ⟨b1, 0, none⟩)), (7, .int .i64 (now + ((l.getD (i).toNat (⟨0, 0, 0⟩ : Act)).gAfter))), (9, .pointer (some ⟨b2, 0, none⟩)), (10, .pointer (some ⟨b3, 0, none⟩)), (35, .slice pa len cap), (36, .int .i64 (len : Int)), (37, .int .i64 i)] w23 (by kernel_rfl) ?_
                  refine J.ok (OK.ldBox S27 2 122 4 4 (.bool f) (by kernel_rfl) rfl (by kernel_rfl)) ?_
                  refine J.run 1 K8_36 [(123, .bool f), (120, .bool false), (5, .pointer (some ⟨b1, 0, none⟩)), (7, .int .i64 (now + ((l.getD (i).toNat (⟨0, 0, 0⟩ : Act)).gAfter))), (9, .pointer (some ⟨b2, 0, none⟩)), (10, .pointer (some ⟨b3, 0, none⟩)), (35, .slice pa len cap), (36, .int .i64 (len : Int)), (37, .int .i64 i)] w23 (by kernel_rfl) ?_
                  refine J.head (.bool false) (congrArg Value.bool fk9) ?_
                  refine J.run 7 K8_37 [(130, .pointer (some ⟨b2, 0, none⟩)), (129, .bool false), (5, .pointer (some ⟨b1, 0, none⟩)), (7, .int .i64 (now + ((l.getD (i).toNat (⟨0, 0, 0⟩ : Act)).gAfter))), (10, .pointer (some ⟨b3, 0, none⟩)), (35, .slice pa len cap), (36, .int .i64 (len : Int)), (37, .int .i64 i)] w23 (by kernel_rfl) ?_
                  refine J.ok (OK.ldBox S27 1 131 5 0 (.int .u8 ((l.getD (i).toNat (⟨0, 0, 0⟩ : Act)).gKind)) (by kernel_rfl) rfl (by kernel_rfl)) ?_
                  refine J.run 1 K8_38 [(132, .int .u8 (Int.tmod ((l.getD (i).toNat (⟨0, 0, 0⟩ : Act)).gKind) 4)), (129, .bool false), (5, .pointer (some ⟨b1, 0, none⟩)), (7, .int .i64 (now + ((l.getD (i).toNat (⟨0, 0, 0⟩ : Act)).gAfter))), (10, .pointer (some ⟨b3, 0, none⟩)), (35, .slice pa len cap), (36, .int .i64 (len : Int)), (37, .int .i64 i)] w23 (by kernel_rfl) ?_
                  refine J.head (.int .u8 (((l.getD (i).toNat (⟨0, 0, 0⟩ : Act)).gKind) % 4)) (congrArg (Value.int .u8) (IntWalk.rem_in _ _ (by omega))) ?_
                  refine J.run 2 K8_39 [(134, .bool ((((l.getD (i).toNat (⟨0, 0, 0⟩ : Act)).gKind) % 4) != 0)), (129, .bool false), (5, .pointer (some ⟨b1, 0, none⟩)), (7, .int .i64 (now + ((l.getD (i).toNat (⟨0, 0, 0⟩ : Act)).gAfter))), (10, .pointer (some ⟨b3, 0, none⟩)), (35, .slice pa len cap), (36, .int .i64 (len : Int)), (37, .int .i64 i)] w23 (by kernel_rfl) ?_
                  refine J.head (.bool false) (congrArg Value.bool (bne_eq_false_iff_eq.2 fk5)) ?_
                  refine J.run 11 K8_40 [(5, .pointer (some ⟨b1, 0, none⟩)), (7, .int .i64 (now + ((l.getD (i).toNat (⟨0, 0, 0⟩ : Act)).gAfter))), (10, .pointer (some ⟨b3, 0, none⟩)), (35, .slice pa len cap), (36, .int .i64 (len : Int)), (37, .int .i64 i)] w23 (by kernel_rfl) ?_
                  refine J.ok (OK.ldBox S27 0 142 31 0 (.agg #[.int .i64 (nextF q), .int .i64 (now + ((l.getD (i).toNat (⟨0, 0, 0⟩ : Act)).gAfter)), .int .i64 e, .bool true, .bool false]) (by kernel_rfl) rfl (by kernel_rfl)) ?_
                  refine J.stBox S27 2 31 0 (.agg #[.int .i64 (nextF q), .int .i64 (now + ((l.getD (i).toNat (⟨0, 0, 0⟩ : Act)).gAfter)), .int .i64 e, .bool true, .bool false]) [.int .i64 (nextF q), .int .i64 (now + ((l.getD (i).toNat (⟨0, 0, 0⟩ : Act)).gAfter)), .int .i64 e, .bool true, .bool false] [box b3 [.int .i64 (nextF q), .int .i64 (now + ((l.getD (i).toNat (⟨0, 0, 0⟩ : Act)).gAfter)), .int .i64 e, .bool true, .bool false] 31, box b2 [.int .u8 ((l.getD (i).toNat (⟨0, 0, 0⟩ : Act)).gKind), .int .u16 ((l.getD (i).toNat (⟨0, 0, 0⟩ : Act)).gAfter), .int .u16 ((l.getD (i).toNat (⟨0, 0, 0⟩ : Act)).gAnswer)] 50, box b1 [.int .i64 (nextF q), .int .i64 (now + ((l.getD (i).toNat (⟨0, 0, 0⟩ : Act)).gAfter)), .int .i64 e, .bool true, .bool false] 31] (by kernel_rfl) rfl (by kernel_rfl) (by kernel_rfl) rfl ?_
                  intro w24 S28
                  refine J.run 4 K8_41 [(143, .int .i64 (IntKind.wrap .i64 (i + 1))), (5, .pointer (some ⟨b1, 0, none⟩)), (7, .int .i64 (now + ((l.getD (i).toNat (⟨0, 0, 0⟩ : Act)).gAfter))), (35, .slice pa len cap), (36, .int .i64 (len : Int))] w24 (by kernel_rfl) ?_
                  refine J.head (.int .i64 (i + 1)) (congrArg (Value.int .i64) (IntWalk.i64_in _ (by omega))) ?_
                  refine J.run 3 K8_9 [(37, .int .i64 (i + 1)), (5, .pointer (some ⟨b1, 0, none⟩)), (7, .int .i64 (now + ((l.getD (i).toNat (⟨0, 0, 0⟩ : Act)).gAfter))), (35, .slice pa len cap), (36, .int .i64 (len : Int))] w24 (by kernel_rfl) ?_
                  have S29 : Sep w [box b3 [.int .i64 (nextF q), .int .i64 (now + ((l.getD (i).toNat (⟨0, 0, 0⟩ : Act)).gAfter)), .int .i64 e, .bool true, .bool false] 31, box b1 [.int .i64 (nextF q), .int .i64 (now + ((l.getD (i).toNat (⟨0, 0, 0⟩ : Act)).gAfter)), .int .i64 e, .bool true, .bool false] 31] w24 := S28.erase 1
                  clear S28
                  have S30 : Sep w [box b1 [.int .i64 (nextF q), .int .i64 (now + ((l.getD (i).toNat (⟨0, 0, 0⟩ : Act)).gAfter)), .int .i64 e, .bool true, .bool false] 31] w24 := S29.erase 0
                  clear S29
                  refine J.run 0 K8_9 [(37, .int .i64 (i + 1)), (36, .int .i64 (len : Int)), (35, .slice pa len cap), (7, .int .i64 (now + ((l.getD (i).toNat (⟨0, 0, 0⟩ : Act)).gAfter))), (5, .pointer (some ⟨b1, 0, none⟩))] w24 (by kernel_rfl) ?_
                  exact ih1 _ (show ((len : Int) - (i + 1)).toNat < m from by omega) (nextF q) (now + ((l.getD (i).toNat (⟨0, 0, 0⟩ : Act)).gAfter)) e true false (now + ((l.getD (i).toNat (⟨0, 0, 0⟩ : Act)).gAfter)) (i + 1) w24 (by omega) (by omega) (by omega) (by omega) (fk11) S30 rfl
                have W4 : ∀ (w25 : World), Sep w [box b3 [.int .i64 (nextF q), .int .i64 (now + ((l.getD (i).toNat (⟨0, 0, 0⟩ : Act)).gAfter)), .int .i64 e, .bool true, .bool false] 31, box b2 [.int .u8 ((l.getD (i).toNat (⟨0, 0, 0⟩ : Act)).gKind), .int .u16 ((l.getD (i).toNat (⟨0, 0, 0⟩ : Act)).gAfter), .int .u16 ((l.getD (i).toNat (⟨0, 0, 0⟩ : Act)).gAnswer)] 50, box b1 [.int .i64 q, .int .i64 a, .int .i64 e, .bool o, .bool f] 31] w25 → WA Try.prog 8 144 R K8_32 3 #[true, true, true, true, true, true, true, false, false, false] [(5, .pointer (some ⟨b1, 0, none⟩)), (7, .int .i64 (now + ((l.getD (i).toNat (⟨0, 0, 0⟩ : Act)).gAfter))), (9, .pointer (some ⟨b2, 0, none⟩)), (10, .pointer (some ⟨b3, 0, none⟩)), (11, .int .i64 0), (35, .slice pa len cap), (36, .int .i64 (len : Int)), (37, .int .i64 i), (59, .int .i64 0), (60, .bool true), (61, .bool true), (62, .pointer (some ⟨b3, 0, none⟩)), (63, .int .i64 (nextF q)), (64, .pointer (some ⟨b1, 0, none⟩)), (65, .int .i64 q)] w25 := by
                  intro w25 S31
                  refine WA.all [7] (by kernel_rfl) rfl ⟨?_, trivial⟩
                  · skip
                    refine WO.set #[true, true, true, true, true, true, true, true, false, false] (by kernel_rfl) ?_
                    have fk14 : (questionB q) = true := questionB_iff.2 (by omega)
                    refine WO.callF 66 12 #[.int .i64 q] hb12 (by kernel_rfl) (next_any q _) ?_
                    rintro _ w26 ⟨rfl, T9⟩
                    have S32 : Sep w [box b3 [.int .i64 (nextF q), .int .i64 (now + ((l.getD (i).toNat (⟨0, 0, 0⟩ : Act)).gAfter)), .int .i64 e, .bool true, .bool false] 31, box b2 [.int .u8 ((l.getD (i).toNat (⟨0, 0, 0⟩ : Act)).gKind), .int .u16 ((l.getD (i).toNat (⟨0, 0, 0⟩ : Act)).gAfter), .int .u16 ((l.getD (i).toNat (⟨0, 0, 0⟩ : Act)).gAnswer)] 50, box b1 [.int .i64 q, .int .i64 a, .int .i64 e, .bool o, .bool f] 31] w26 := S31.trans T9
                    clear T9 S31
                    refine WA.head (.int .i64 (nextF q)) (by first | (simp only [nextV, fk14, reduceCtorEq, ↓reduceIte]; done) | simp [nextV, fk14]) ?_
                    refine WA.take 8 67 (.bool ((nextF q) != (nextF q))) #[true, true, true, true, true, true, true, true, true, false] (by kernel_rfl) (by kernel_rfl) (by kernel_rfl) (fun _ => by kernel_rfl) (by kernel_rfl) ?_
                    refine WA.head (.bool false) (congrArg Value.bool (by simp)) ?_
                    refine WA.take 9 68 (.bool false) #[true, true, true, true, true, true, true, true, true, true] (by kernel_rfl) (by kernel_rfl) (by kernel_rfl) (fun _ => by kernel_rfl) (by kernel_rfl) ?_
                    refine WA.weaken (env' := [(5, .pointer (some ⟨b1, 0, none⟩)), (7, .int .i64 (now + ((l.getD (i).toNat (⟨0, 0, 0⟩ : Act)).gAfter))), (9, .pointer (some ⟨b2, 0, none⟩)), (10, .pointer (some ⟨b3, 0, none⟩)), (11, .int .i64 0), (35, .slice pa len cap), (36, .int .i64 (len : Int)), (37, .int .i64 i), (59, .int .i64 0), (60, .bool true), (61, .bool true), (62, .pointer (some ⟨b3, 0, none⟩)), (63, .int .i64 (nextF q)), (64, .pointer (some ⟨b1, 0, none⟩)), (65, .int .i64 q), (66, .int .i64 (nextF q)), (67, .bool false), (68, .bool false)]) (by kernel_rfl) ?_
                    exact W3 w26 S32
                have W5 : ∀ (w27 : World), Sep w [box b3 [.int .i64 (nextF q), .int .i64 (now + ((l.getD (i).toNat (⟨0, 0, 0⟩ : Act)).gAfter)), .int .i64 e, .bool true, .bool false] 31, box b2 [.int .u8 ((l.getD (i).toNat (⟨0, 0, 0⟩ : Act)).gKind), .int .u16 ((l.getD (i).toNat (⟨0, 0, 0⟩ : Act)).gAfter), .int .u16 ((l.getD (i).toNat (⟨0, 0, 0⟩ : Act)).gAnswer)] 50, box b1 [.int .i64 q, .int .i64 a, .int .i64 e, .bool o, .bool f] 31] w27 → WA Try.prog 8 144 R K8_32 3 #[true, true, true, true, false, true, true, true, false, false] [(5, .pointer (some ⟨b1, 0, none⟩)), (7, .int .i64 (now + ((l.getD (i).toNat (⟨0, 0, 0⟩ : Act)).gAfter))), (9, .pointer (some ⟨b2, 0, none⟩)), (10, .pointer (some ⟨b3, 0, none⟩)), (11, .int .i64 0), (35, .slice pa len cap), (36, .int .i64 (len : Int)), (37, .int .i64 i), (59, .int .i64 0), (60, .bool true), (61, .bool true), (62, .pointer (some ⟨b3, 0, none⟩)), (64, .pointer (some ⟨b1, 0, none⟩)), (65, .int .i64 q), (66, .int .i64 (nextF q))] w27 := by
                  intro w27 S33
                  refine WA.all [4] (by kernel_rfl) rfl ⟨?_, trivial⟩
                  · skip
                    refine WO.set #[true, true, true, true, true, true, true, true, false, false] (by kernel_rfl) ?_
                    refine WO.ok (OK.ldBox S33 0 63 3 0 (.int .i64 (nextF q)) (by kernel_rfl) rfl (by kernel_rfl)) ?_
                    refine WA.take 8 67 (.bool ((nextF q) != (nextF q))) #[true, true, true, true, true, true, true, true, true, false] (by kernel_rfl) (by kernel_rfl) (by kernel_rfl) (fun _ => by kernel_rfl) (by kernel_rfl) ?_
                    refine WA.head (.bool false) (congrArg Value.bool (by simp)) ?_
                    refine WA.take 9 68 (.bool false) #[true, true, true, true, true, true, true, true, true, true] (by kernel_rfl) (by kernel_rfl) (by kernel_rfl) (fun _ => by kernel_rfl) (by kernel_rfl) ?_
                    refine WA.weaken (env' := [(5, .pointer (some ⟨b1, 0, none⟩)), (7, .int .i64 (now + ((l.getD (i).toNat (⟨0, 0, 0⟩ : Act)).gAfter))), (9, .pointer (some ⟨b2, 0, none⟩)), (10, .pointer (some ⟨b3, 0, none⟩)), (11, .int .i64 0), (35, .slice pa len cap), (36, .int .i64 (len : Int)), (37, .int .i64 i), (59, .int .i64 0), (60, .bool true), (61, .bool true), (62, .pointer (some ⟨b3, 0, none⟩)), (63, .int .i64 (nextF q)), (64, .pointer (some ⟨b1, 0, none⟩)), (65, .int .i64 q), (66, .int .i64 (nextF q)), (67, .bool false), (68, .bool false)]) (by kernel_rfl) ?_
                    exact W3 w27 S33
                have W6 : ∀ (w28 : World), Sep w [box b3 [.int .i64 (nextF q), .int .i64 (now + ((l.getD (i).toNat (⟨0, 0, 0⟩ : Act)).gAfter)), .int .i64 e, .bool true, .bool false] 31, box b2 [.int .u8 ((l.getD (i).toNat (⟨0, 0, 0⟩ : Act)).gKind), .int .u16 ((l.getD (i).toNat (⟨0, 0, 0⟩ : Act)).gAfter), .int .u16 ((l.getD (i).toNat (⟨0, 0, 0⟩ : Act)).gAnswer)] 50, box b1 [.int .i64 q, .int .i64 a, .int .i64 e, .bool o, .bool f] 31] w28 → WA Try.prog 8 144 R K8_32 4 #[true, true, true, true, true, true, false, false, false, false] [(5, .pointer (some ⟨b1, 0, none⟩)), (7, .int .i64 (now + ((l.getD (i).toNat (⟨0, 0, 0⟩ : Act)).gAfter))), (9, .pointer (some ⟨b2, 0, none⟩)), (10, .pointer (some ⟨b3, 0, none⟩)), (11, .int .i64 0), (35, .slice pa len cap), (36, .int .i64 (len : Int)), (37, .int .i64 i), (59, .int .i64 0), (60, .bool true), (61, .bool true), (62, .pointer (some ⟨b3, 0, none⟩)), (63, .int .i64 (nextF q)), (64, .pointer (some ⟨b1, 0, none⟩))] w28 := by
                  intro w28 S34
                  refine WA.all [6] (by kernel_rfl) rfl ⟨?_, trivial⟩
                  · skip
                    refine WO.set #[true, true, true, true, true, true, true, false, false, false] (by kernel_rfl) ?_
                    refine WO.ok (OK.ldBox S34 2 65 3 0 (.int .i64 q) (by kernel_rfl) rfl (by kernel_rfl)) ?_
                    refine WA.weaken (env' := [(5, .pointer (some ⟨b1, 0, none⟩)), (7, .int .i64 (now + ((l.getD (i).toNat (⟨0, 0, 0⟩ : Act)).gAfter))), (9, .pointer (some ⟨b2, 0, none⟩)), (10, .pointer (some ⟨b3, 0, none⟩)), (11, .int .i64 0), (35, .slice pa len cap), (36, .int .i64 (len : Int)), (37, .int .i64 i), (59, .int .i64 0), (60, .bool true), (61, .bool true), (62, .pointer (some ⟨b3, 0, none⟩)), (63, .int .i64 (nextF q)), (64, .pointer (some ⟨b1, 0, none⟩)), (65, .int .i64 q)]) (by kernel_rfl) ?_
                    exact W4 w28 S34
                have W7 : ∀ (w29 : World), Sep w [box b3 [.int .i64 (nextF q), .int .i64 (now + ((l.getD (i).toNat (⟨0, 0, 0⟩ : Act)).gAfter)), .int .i64 e, .bool true, .bool false] 31, box b2 [.int .u8 ((l.getD (i).toNat (⟨0, 0, 0⟩ : Act)).gKind), .int .u16 ((l.getD (i).toNat (⟨0, 0, 0⟩ : Act)).gAfter), .int .u16 ((l.getD (i).toNat (⟨0, 0, 0⟩ : Act)).gAnswer)] 50, box b1 [.int .i64 q, .int .i64 a, .int .i64 e, .bool o, .bool f] 31] w29 → WA Try.prog 8 144 R K8_32 4 #[true, true, true, true, false, true, true, false, false, false] [(5, .pointer (some ⟨b1, 0, none⟩)), (7, .int .i64 (now + ((l.getD (i).toNat (⟨0, 0, 0⟩ : Act)).gAfter))), (9, .pointer (some ⟨b2, 0, none⟩)), (10, .pointer (some ⟨b3, 0, none⟩)), (11, .int .i64 0), (35, .slice pa len cap), (36, .int .i64 (len : Int)), (37, .int .i64 i), (59, .int .i64 0), (60, .bool true), (61, .bool true), (62, .pointer (some ⟨b3, 0, none⟩)), (64, .pointer (some ⟨b1, 0, none⟩)), (65, .int .i64 q)] w29 := by
                  intro w29 S35
                  refine WA.all [4, 7] (by kernel_rfl) rfl ⟨?_, ?_, trivial⟩
                  · skip
                    refine WO.set #[true, true, true, true, true, true, true, false, false, false] (by kernel_rfl) ?_
                    refine WO.ok (OK.ldBox S35 0 63 3 0 (.int .i64 (nextF q)) (by kernel_rfl) rfl (by kernel_rfl)) ?_
                    refine WA.weaken (env' := [(5, .pointer (some ⟨b1, 0, none⟩)), (7, .int .i64 (now + ((l.getD (i).toNat (⟨0, 0, 0⟩ : Act)).gAfter))), (9, .pointer (some ⟨b2, 0, none⟩)), (10, .pointer (some ⟨b3, 0, none⟩)), (11, .int .i64 0), (35, .slice pa len cap), (36, .int .i64 (len : Int)), (37, .int .i64 i), (59, .int .i64 0), (60, .bool true), (61, .bool true), (62, .pointer (some ⟨b3, 0, none⟩)), (63, .int .i64 (nextF q)), (64, .pointer (some ⟨b1, 0, none⟩)), (65, .int .i64 q)]) (by kernel_rfl) ?_
                    exact W4 w29 S35
                  · skip
                    refine WO.set #[true, true, true, true, false, true, true, true, false, false] (by kernel_rfl) ?_
                    have fk15 : (questionB q) = true := questionB_iff.2 (by omega)
                    refine WO.callF 66 12 #[.int .i64 q] hb12 (by kernel_rfl) (next_any q _) ?_
                    rintro _ w30 ⟨rfl, T10⟩
                    have S36 : Sep w [box b3 [.int .i64 (nextF q), .int .i64 (now + ((l.getD (i).toNat (⟨0, 0, 0⟩ : Act)).gAfter)), .int .i64 e, .bool true, .bool false] 31, box b2 [.int .u8 ((l.getD (i).toNat (⟨0, 0, 0⟩ : Act)).gKind), .int .u16 ((l.getD (i).toNat (⟨0, 0, 0⟩ : Act)).gAfter), .int .u16 ((l.getD (i).toNat (⟨0, 0, 0⟩ : Act)).gAnswer)] 50, box b1 [.int .i64 q, .int .i64 a, .int .i64 e, .bool o, .bool f] 31] w30 := S35.trans T10
                    clear T10 S35
                    refine WA.head (.int .i64 (nextF q)) (by first | (simp only [nextV, fk15, reduceCtorEq, ↓reduceIte]; done) | simp [nextV, fk15]) ?_
                    refine WA.weaken (env' := [(5, .pointer (some ⟨b1, 0, none⟩)), (7, .int .i64 (now + ((l.getD (i).toNat (⟨0, 0, 0⟩ : Act)).gAfter))), (9, .pointer (some ⟨b2, 0, none⟩)), (10, .pointer (some ⟨b3, 0, none⟩)), (11, .int .i64 0), (35, .slice pa len cap), (36, .int .i64 (len : Int)), (37, .int .i64 i), (59, .int .i64 0), (60, .bool true), (61, .bool true), (62, .pointer (some ⟨b3, 0, none⟩)), (64, .pointer (some ⟨b1, 0, none⟩)), (65, .int .i64 q), (66, .int .i64 (nextF q))]) (by kernel_rfl) ?_
                    exact W5 w30 S36
                have W8 : ∀ (w31 : World), Sep w [box b3 [.int .i64 (nextF q), .int .i64 (now + ((l.getD (i).toNat (⟨0, 0, 0⟩ : Act)).gAfter)), .int .i64 e, .bool true, .bool false] 31, box b2 [.int .u8 ((l.getD (i).toNat (⟨0, 0, 0⟩ : Act)).gKind), .int .u16 ((l.getD (i).toNat (⟨0, 0, 0⟩ : Act)).gAfter), .int .u16 ((l.getD (i).toNat (⟨0, 0, 0⟩ : Act)).gAnswer)] 50, box b1 [.int .i64 q, .int .i64 a, .int .i64 e, .bool o, .bool f] 31] w31 → WA Try.prog 8 144 R K8_32 5 #[true, true, true, true, false, true, false, false, false, false] [(5, .pointer (some ⟨b1, 0, none⟩)), (7, .int .i64 (now + ((l.getD (i).toNat (⟨0, 0, 0⟩ : Act)).gAfter))), (9, .pointer (some ⟨b2, 0, none⟩)), (10, .pointer (some ⟨b3, 0, none⟩)), (11, .int .i64 0), (35, .slice pa len cap), (36, .int .i64 (len : Int)), (37, .int .i64 i), (59, .int .i64 0), (60, .bool true), (61, .bool true), (62, .pointer (some ⟨b3, 0, none⟩)), (64, .pointer (some ⟨b1, 0, none⟩))] w31 := by
                  intro w31 S37
                  refine WA.all [4, 6] (by kernel_rfl) rfl ⟨?_, ?_, trivial⟩
                  · skip
                    refine WO.set #[true, true, true, true, true, true, false, false, false, false] (by kernel_rfl) ?_
                    refine WO.ok (OK.ldBox S37 0 63 3 0 (.int .i64 (nextF q)) (by kernel_rfl) rfl (by kernel_rfl)) ?_
                    refine WA.weaken (env' := [(5, .pointer (some ⟨b1, 0, none⟩)), (7, .int .i64 (now + ((l.getD (i).toNat (⟨0, 0, 0⟩ : Act)).gAfter))), (9, .pointer (some ⟨b2, 0, none⟩)), (10, .pointer (some ⟨b3, 0, none⟩)), (11, .int .i64 0), (35, .slice pa len cap), (36, .int .i64 (len : Int)), (37, .int .i64 i), (59, .int .i64 0), (60, .bool true), (61, .bool true), (62, .pointer (some ⟨b3, 0, none⟩)), (63, .int .i64 (nextF q)), (64, .pointer (some ⟨b1, 0, none⟩))]) (by kernel_rfl) ?_
                    exact W6 w31 S37
                  · skip
                    refine WO.set #[true, true, true, true, false, true, true, false, false, false] (by kernel_rfl) ?_
                    refine WO.ok (OK.ldBox S37 2 65 3 0 (.int .i64 q) (by kernel_rfl) rfl (by kernel_rfl)) ?_
                    refine WA.weaken (env' := [(5, .pointer (some ⟨b1, 0, none⟩)), (7, .int .i64 (now + ((l.getD (i).toNat (⟨0, 0, 0⟩ : Act)).gAfter))), (9, .pointer (some ⟨b2, 0, none⟩)), (10, .pointer (some ⟨b3, 0, none⟩)), (11, .int .i64 0), (35, .slice pa len cap), (36, .int .i64 (len : Int)), (37, .int .i64 i), (59, .int .i64 0), (60, .bool true), (61, .bool true), (62, .pointer (some ⟨b3, 0, none⟩)), (64, .pointer (some ⟨b1, 0, none⟩)), (65, .int .i64 q)]) (by kernel_rfl) ?_
                    exact W7 w31 S37
                refine J.drawAny S25 10 #[false, false, false, false, false, false, false, false, false, false] Try.mixed (by kernel_rfl) (by kernel_rfl) (by kernel_rfl) ?_
                intro w32 S38
                refine WA.take 0 59 (.int .i64 0) #[true, false, false, false, false, false, false, false, false, false] (by kernel_rfl) (by kernel_rfl) (by kernel_rfl) (fun _ => by kernel_rfl) (by kernel_rfl) ?_
                refine WA.take 1 60 (.bool true) #[true, true, false, false, false, false, false, false, false, false] (by kernel_rfl) (by kernel_rfl) (by kernel_rfl) (fun _ => by kernel_rfl) (by kernel_rfl) ?_
                refine WA.take 2 61 (.bool true) #[true, true, true, false, false, false, false, false, false, false] (by kernel_rfl) (by kernel_rfl) (by kernel_rfl) (fun _ => by kernel_rfl) (by kernel_rfl) ?_
                refine WA.take 3 62 (.pointer (some ⟨b3, 0, none⟩)) #[true, true, true, true, false, false, false, false, false, false] (by kernel_rfl) (by kernel_rfl) (by kernel_rfl) (fun _ => by kernel_rfl) (by kernel_rfl) ?_
                refine WA.take 5 64 (.pointer (some ⟨b1, 0, none⟩)) #[true, true, true, true, false, true, false, false, false, false] (by kernel_rfl) (by kernel_rfl) (by kernel_rfl) (fun _ => by kernel_rfl) (by kernel_rfl) ?_
                refine WA.weaken (env' := [(5, .pointer (some ⟨b1, 0, none⟩)), (7, .int .i64 (now + ((l.getD (i).toNat (⟨0, 0, 0⟩ : Act)).gAfter))), (9, .pointer (some ⟨b2, 0, none⟩)), (10, .pointer (some ⟨b3, 0, none⟩)), (11, .int .i64 0), (35, .slice pa len cap), (36, .int .i64 (len : Int)), (37, .int .i64 i), (59, .int .i64 0), (60, .bool true), (61, .bool true), (62, .pointer (some ⟨b3, 0, none⟩)), (64, .pointer (some ⟨b1, 0, none⟩))]) (by kernel_rfl) ?_
                exact W8 w32 S38
          · skip
            refine J.head (.bool false) (congrArg Value.bool (beq_eq_false_iff_ne.2 fk5)) ?_
            refine J.run 7 K8_42 [(69, .bool ((((l.getD (i).toNat (⟨0, 0, 0⟩ : Act)).gKind) % 4) == 1)), (49, .int .u8 (((l.getD (i).toNat (⟨0, 0, 0⟩ : Act)).gKind) % 4)), (11, .int .i64 0), (10, .pointer (some ⟨b3, 0, none⟩)), (7, .int .i64 (now + ((l.getD (i).toNat (⟨0, 0, 0⟩ : Act)).gAfter))), (9, .pointer (some ⟨b2, 0, none⟩)), (37, .int .i64 i), (36, .int .i64 (len : Int)), (35, .slice pa len cap), (5, .pointer (some ⟨b1, 0, none⟩))] w11 (by kernel_rfl) ?_
            by_cases fk16 : (((l.getD (i).toNat (⟨0, 0, 0⟩ : Act)).gKind) % 4) = 1
            · skip
              refine J.head (.bool true) (congrArg Value.bool (beq_iff_eq.2 fk16)) ?_
              refine J.run 6 K8_43 [(72, .pointer (some ⟨b2, 2, none⟩)), (10, .pointer (some ⟨b3, 0, none⟩)), (7, .int .i64 (now + ((l.getD (i).toNat (⟨0, 0, 0⟩ : Act)).gAfter))), (9, .pointer (some ⟨b2, 0, none⟩)), (37, .int .i64 i), (36, .int .i64 (len : Int)), (35, .slice pa len cap), (5, .pointer (some ⟨b1, 0, none⟩))] w11 (by kernel_rfl) ?_
              refine J.ok (OK.ldBox S11 1 73 22 2 (.int .u16 ((l.getD (i).toNat (⟨0, 0, 0⟩ : Act)).gAnswer)) (by kernel_rfl) rfl (by kernel_rfl)) ?_
              refine J.run 1 K8_44 [(74, .int .i64 (IntKind.wrap .i64 ((l.getD (i).toNat (⟨0, 0, 0⟩ : Act)).gAnswer))), (10, .pointer (some ⟨b3, 0, none⟩)), (7, .int .i64 (now + ((l.getD (i).toNat (⟨0, 0, 0⟩ : Act)).gAfter))), (9, .pointer (some ⟨b2, 0, none⟩)), (37, .int .i64 i), (36, .int .i64 (len : Int)), (35, .slice pa len cap), (5, .pointer (some ⟨b1, 0, none⟩))] w11 (by kernel_rfl) ?_
              refine J.head (.int .i64 ((l.getD (i).toNat (⟨0, 0, 0⟩ : Act)).gAnswer)) (congrArg (Value.int .i64) (IntWalk.i64_in _ (by omega))) ?_
              refine J.newSlice S11 75 1 [.int .i64 ((l.getD (i).toNat (⟨0, 0, 0⟩ : Act)).gAnswer)] 3 (by kernel_rfl) ?_
              intro b4 w33 S39
              refine J.run 5 K8_45 [(77, .pointer (some ⟨b1, 0, none⟩)), (12, .slice (some ⟨b4, 0, none⟩) 1 1), (10, .pointer (some ⟨b3, 0, none⟩)), (7, .int .i64 (now + ((l.getD (i).toNat (⟨0, 0, 0⟩ : Act)).gAfter))), (9, .pointer (some ⟨b2, 0, none⟩)), (37, .int .i64 i), (36, .int .i64 (len : Int)), (35, .slice pa len cap), (5, .pointer (some ⟨b1, 0, none⟩))] w33 (by kernel_rfl) ?_
              refine J.ok (OK.ldBox S39 3 78 3 0 (.int .i64 q) (by kernel_rfl) rfl (by kernel_rfl)) ?_
              refine J.run 1 K8_46 [(79, .slice (some ⟨b4, 0, none⟩) 1 1), (78, .int .i64 q), (12, .slice (some ⟨b4, 0, none⟩) 1 1), (10, .pointer (some ⟨b3, 0, none⟩)), (7, .int .i64 (now + ((l.getD (i).toNat (⟨0, 0, 0⟩ : Act)).gAfter))), (9, .pointer (some ⟨b2, 0, none⟩)), (37, .int .i64 i), (36, .int .i64 (len : Int)), (35, .slice pa len cap), (5, .pointer (some ⟨b1, 0, none⟩))] w33 (by kernel_rfl) ?_
              have fk17 : (partsB ([((l.getD (i).toNat (⟨0, 0, 0⟩ : Act)).gAnswer)])) = true := parts_one (by omega)
              have fk18 : (questionB q) = true := questionB_iff.2 (by omega)
              refine J.callF 80 10 #[.int .i64 q, .slice (some ⟨b4, 0, none⟩) 1 1] hb10 (by kernel_rfl) (answer_any q (some ⟨b4, 0, none⟩) 1 1 ([((l.getD (i).toNat (⟨0, 0, 0⟩ : Act)).gAnswer)]) _ ((box_ints [((l.getD (i).toNat (⟨0, 0, 0⟩ : Act)).gAnswer)] (S39.nth 0 rfl) rfl 1 rfl)) (by omega)) ?_
              rintro _ w34 ⟨rfl, T11⟩
              have S40 : Sep w [box b4 [.int .i64 ((l.getD (i).toNat (⟨0, 0, 0⟩ : Act)).gAnswer)] 3, box b3 [.int .i64 q, .int .i64 a, .int .i64 e, .bool o, .bool f] 31, box b2 [.int .u8 ((l.getD (i).toNat (⟨0, 0, 0⟩ : Act)).gKind), .int .u16 ((l.getD (i).toNat (⟨0, 0, 0⟩ : Act)).gAfter), .int .u16 ((l.getD (i).toNat (⟨0, 0, 0⟩ : Act)).gAnswer)] 50, box b1 [.int .i64 q, .int .i64 a, .int .i64 e, .bool o, .bool f] 31] w34 := S39.trans T11
              clear T11 S39
              refine J.head (.tuple #[.int .i64 (ansF q ([((l.getD (i).toNat (⟨0, 0, 0⟩ : Act)).gAnswer)])), .int .i64 0]) (by first | (simp only [ansV, fk17, fk18, reduceCtorEq, ↓reduceIte]; done) | simp [ansV, fk17, fk18]) ?_
              have hans1 : 0 ≤ ansF q ([((l.getD (i).toNat (⟨0, 0, 0⟩ : Act)).gAnswer)]) ∧ ansF q ([((l.getD (i).toNat (⟨0, 0, 0⟩ : Act)).gAnswer)]) ≤ 65535 := ansF_bounds (by omega) _
              refine J.run 18 K8_47 [(85, .pointer (some ⟨b2, 0, none⟩)), (13, .int .i64 (ansF q ([((l.getD (i).toNat (⟨0, 0, 0⟩ : Act)).gAnswer)]))), (12, .slice (some ⟨b4, 0, none⟩) 1 1), (10, .pointer (some ⟨b3, 0, none⟩)), (7, .int .i64 (now + ((l.getD (i).toNat (⟨0, 0, 0⟩ : Act)).gAfter))), (9, .pointer (some ⟨b2, 0, none⟩)), (37, .int .i64 i), (36, .int .i64 (len : Int)), (35, .slice pa len cap), (5, .pointer (some ⟨b1, 0, none⟩))] w34 (by kernel_rfl) ?_
              refine J.ok (OK.ldBox S40 2 86 5 0 (.int .u8 ((l.getD (i).toNat (⟨0, 0, 0⟩ : Act)).gKind)) (by kernel_rfl) rfl (by kernel_rfl)) ?_
              refine J.run 1 K8_48 [(87, .int .u8 (Int.tmod ((l.getD (i).toNat (⟨0, 0, 0⟩ : Act)).gKind) 4)), (13, .int .i64 (ansF q ([((l.getD (i).toNat (⟨0, 0, 0⟩ : Act)).gAnswer)]))), (12, .slice (some ⟨b4, 0, none⟩) 1 1), (10, .pointer (some ⟨b3, 0, none⟩)), (7, .int .i64 (now + ((l.getD (i).toNat (⟨0, 0, 0⟩ : Act)).gAfter))), (9, .pointer (some ⟨b2, 0, none⟩)), (37, .int .i64 i), (36, .int .i64 (len : Int)), (35, .slice pa len cap), (5, .pointer (some ⟨b1, 0, none⟩))] w34 (by kernel_rfl) ?_
              refine J.head (.int .u8 (((l.getD (i).toNat (⟨0, 0, 0⟩ : Act)).gKind) % 4)) (congrArg (Value.int .u8) (IntWalk.rem_in _ _ (by omega))) ?_
              refine J.run 2 K8_49 [(88, .bool ((((l.getD (i).toNat (⟨0, 0, 0⟩ : Act)).gKind) % 4) == 2)), (13, .int .i64 (ansF q ([((l.getD (i).toNat (⟨0, 0, 0⟩ : Act)).gAnswer)]))), (12, .slice (some ⟨b4, 0, none⟩) 1 1), (10, .pointer (some ⟨b3, 0, none⟩)), (7, .int .i64 (now + ((l.getD (i).toNat (⟨0, 0, 0⟩ : Act)).gAfter))), (9, .pointer (some ⟨b2, 0, none⟩)), (37, .int .i64 i), (36, .int .i64 (len : Int)), (35, .slice pa len cap), (5, .pointer (some ⟨b1, 0, none⟩))] w34 (by kernel_rfl) ?_
              by_cases fk19 : (((l.getD (i).toNat (⟨0, 0, 0⟩ : Act)).gKind) % 4) = 2
              · skip
                refine J.head (.bool true) (congrArg Value.bool (beq_iff_eq.2 fk19)) ?_
                refine J.run 3 K8_50 [(89, .pointer (some ⟨b2, 2, none⟩)), (12, .slice (some ⟨b4, 0, none⟩) 1 1), (10, .pointer (some ⟨b3, 0, none⟩)), (7, .int .i64 (now + ((l.getD (i).toNat (⟨0, 0, 0⟩ : Act)).gAfter))), (9, .pointer (some ⟨b2, 0, none⟩)), (37, .int .i64 i), (36, .int .i64 (len : Int)), (35, .slice pa len cap), (5, .pointer (some ⟨b1, 0, none⟩))] w34 (by kernel_rfl) ?_
                refine J.ok (OK.ldBox S40 2 90 22 2 (.int .u16 ((l.getD (i).toNat (⟨0, 0, 0⟩ : Act)).gAnswer)) (by kernel_rfl) rfl (by kernel_rfl)) ?_
                refine J.run 1 K8_51 [(91, .int .i64 (IntKind.wrap .i64 ((l.getD (i).toNat (⟨0, 0, 0⟩ : Act)).gAnswer))), (12, .slice (some ⟨b4, 0, none⟩) 1 1), (10, .pointer (some ⟨b3, 0, none⟩)), (7, .int .i64 (now + ((l.getD (i).toNat (⟨0, 0, 0⟩ : Act)).gAfter))), (9, .pointer (some ⟨b2, 0, none⟩)), (37, .int .i64 i), (36, .int .i64 (len : Int)), (35, .slice pa len cap), (5, .pointer (some ⟨b1, 0, none⟩))] w34 (by kernel_rfl) ?_
                refine J.head (.int .i64 ((l.getD (i).toNat (⟨0, 0, 0⟩ : Act)).gAnswer)) (congrArg (Value.int .i64) (IntWalk.i64_in _ (by omega))) ?_
                refine J.run 3 K8_52 [(13, .int .i64 ((l.getD (i).toNat (⟨0, 0, 0⟩ : Act)).gAnswer)), (12, .slice (some ⟨b4, 0, none⟩) 1 1), (10, .pointer (some ⟨b3, 0, none⟩)), (7, .int .i64 (now + ((l.getD (i).toNat (⟨0, 0, 0⟩ : Act)).gAfter))), (9, .pointer (some ⟨b2, 0, none⟩)), (37, .int .i64 i), (36, .int .i64 (len : Int)), (35, .slice pa len cap), (5, .pointer (some ⟨b1, 0, none⟩))] w34 (by kernel_rfl) ?_
                refine J.ok (OK.ldBox S40 3 93 31 0 (.agg #[.int .i64 q, .int .i64 a, .int .i64 e, .bool o, .bool f]) (by kernel_rfl) rfl (by kernel_rfl)) ?_
                refine J.run 3 K8_53 [(96, .slice (some ⟨b4, 0, none⟩) 1 1), (95, .int .i64 ((l.getD (i).toNat (⟨0, 0, 0⟩ : Act)).gAnswer)), (94, .int .i64 (now + ((l.getD (i).toNat (⟨0, 0, 0⟩ : Act)).gAfter))), (93, .agg #[.int .i64 q, .int .i64 a, .int .i64 e, .bool o, .bool f]), (10, .pointer (some ⟨b3, 0, none⟩)), (7, .int .i64 (now + ((l.getD (i).toNat (⟨0, 0, 0⟩ : Act)).gAfter))), (9, .pointer (some ⟨b2, 0, none⟩)), (37, .int .i64 i), (36, .int .i64 (len : Int)), (35, .slice pa len cap), (5, .pointer (some ⟨b1, 0, none⟩))] w34 (by kernel_rfl) ?_
                have fk20 : (validB q a e o f) = true := hv
                have fk21 : (instantB (now + ((l.getD (i).toNat (⟨0, 0, 0⟩ : Act)).gAfter))) = true := instantB_iff.2 (by omega)
                have fk22 : (wordB ((l.getD (i).toNat (⟨0, 0, 0⟩ : Act)).gAnswer)) = true := wordB_iff.2 (by omega)
                rcases Bool.eq_false_or_eq_true o with fk23 | fk23
                · skip
                  have fk24 : ¬ ((now + ((l.getD (i).toNat (⟨0, 0, 0⟩ : Act)).gAfter)) < a) := by omega
                  refine J.callF 97 18 #[.agg #[.int .i64 q, .int .i64 a, .int .i64 e, .bool o, .bool f], .int .i64 (now + ((l.getD (i).toNat (⟨0, 0, 0⟩ : Act)).gAfter)), .int .i64 ((l.getD (i).toNat (⟨0, 0, 0⟩ : Act)).gAnswer), .slice (some ⟨b4, 0, none⟩) 1 1] hb18 (by kernel_rfl) (reply_any q a e o f (now + ((l.getD (i).toNat (⟨0, 0, 0⟩ : Act)).gAfter)) ((l.getD (i).toNat (⟨0, 0, 0⟩ : Act)).gAnswer) (some ⟨b4, 0, none⟩) 1 1 ([((l.getD (i).toNat (⟨0, 0, 0⟩ : Act)).gAnswer)]) _ ((box_ints [((l.getD (i).toNat (⟨0, 0, 0⟩ : Act)).gAnswer)] (S40.nth 0 rfl) rfl 1 rfl)) (by omega)) ?_
                  rintro _ w35 ⟨rfl, T12⟩
                  have S41 : Sep w [box b4 [.int .i64 ((l.getD (i).toNat (⟨0, 0, 0⟩ : Act)).gAnswer)] 3, box b3 [.int .i64 q, .int .i64 a, .int .i64 e, .bool o, .bool f] 31, box b2 [.int .u8 ((l.getD (i).toNat (⟨0, 0, 0⟩ : Act)).gKind), .int .u16 ((l.getD (i).toNat (⟨0, 0, 0⟩ : Act)).gAfter), .int .u16 ((l.getD (i).toNat (⟨0, 0, 0⟩ : Act)).gAnswer)] 50, box b1 [.int .i64 q, .int .i64 a, .int .i64 e, .bool o, .bool f] 31] w35 := S40.trans T12
                  clear T12 S40
                  refine J.head (.tuple #[.agg #[.int .i64 q, .int .i64 0, .int .i64 (endE e (replyR q a (now + ((l.getD (i).toNat (⟨0, 0, 0⟩ : Act)).gAfter)) ((l.getD (i).toNat (⟨0, 0, 0⟩ : Act)).gAnswer) ([((l.getD (i).toNat (⟨0, 0, 0⟩ : Act)).gAnswer)]))), .bool false, .bool ((endE e (replyR q a (now + ((l.getD (i).toNat (⟨0, 0, 0⟩ : Act)).gAfter)) ((l.getD (i).toNat (⟨0, 0, 0⟩ : Act)).gAnswer) ([((l.getD (i).toNat (⟨0, 0, 0⟩ : Act)).gAnswer)]))) == 7)], .int .i64 0]) (by (try simp only [replyV, zeroQ, fk20, fk17, fk21, fk22, fk24]) <;> simp [replyV, zeroQ, fk20, fk17, fk21, fk22, fk24, fk23]) ?_
                  refine J.run 3 K8_54 [(99, .int .i64 0), (98, .agg #[.int .i64 q, .int .i64 0, .int .i64 (endE e (replyR q a (now + ((l.getD (i).toNat (⟨0, 0, 0⟩ : Act)).gAfter)) ((l.getD (i).toNat (⟨0, 0, 0⟩ : Act)).gAnswer) ([((l.getD (i).toNat (⟨0, 0, 0⟩ : Act)).gAnswer)]))), .bool false, .bool ((endE e (replyR q a (now + ((l.getD (i).toNat (⟨0, 0, 0⟩ : Act)).gAfter)) ((l.getD (i).toNat (⟨0, 0, 0⟩ : Act)).gAnswer) ([((l.getD (i).toNat (⟨0, 0, 0⟩ : Act)).gAnswer)]))) == 7)]), (10, .pointer (some ⟨b3, 0, none⟩)), (7, .int .i64 (now + ((l.getD (i).toNat (⟨0, 0, 0⟩ : Act)).gAfter))), (9, .pointer (some ⟨b2, 0, none⟩)), (37, .int .i64 i), (36, .int .i64 (len : Int)), (35, .slice pa len cap), (5, .pointer (some ⟨b1, 0, none⟩))] w35 (by kernel_rfl) ?_
                  refine J.stBox S41 1 31 0 (.agg #[.int .i64 q, .int .i64 0, .int .i64 (endE e (replyR q a (now + ((l.getD (i).toNat (⟨0, 0, 0⟩ : Act)).gAfter)) ((l.getD (i).toNat (⟨0, 0, 0⟩ : Act)).gAnswer) ([((l.getD (i).toNat (⟨0, 0, 0⟩ : Act)).gAnswer)]))), .bool false, .bool ((endE e (replyR q a (now + ((l.getD (i).toNat (⟨0, 0, 0⟩ : Act)).gAfter)) ((l.getD (i).toNat (⟨0, 0, 0⟩ : Act)).gAnswer) ([((l.getD (i).toNat (⟨0, 0, 0⟩ : Act)).gAnswer)]))) == 7)]) [.int .i64 q, .int .i64 0, .int .i64 (endE e (replyR q a (now + ((l.getD (i).toNat (⟨0, 0, 0⟩ : Act)).gAfter)) ((l.getD (i).toNat (⟨0, 0, 0⟩ : Act)).gAnswer) ([((l.getD (i).toNat (⟨0, 0, 0⟩ : Act)).gAnswer)]))), .bool false, .bool ((endE e (replyR q a (now + ((l.getD (i).toNat (⟨0, 0, 0⟩ : Act)).gAfter)) ((l.getD (i).toNat (⟨0, 0, 0⟩ : Act)).gAnswer) ([((l.getD (i).toNat (⟨0, 0, 0⟩ : Act)).gAnswer)]))) == 7)] [box b4 [.int .i64 ((l.getD (i).toNat (⟨0, 0, 0⟩ : Act)).gAnswer)] 3, box b3 [.int .i64 q, .int .i64 0, .int .i64 (endE e (replyR q a (now + ((l.getD (i).toNat (⟨0, 0, 0⟩ : Act)).gAfter)) ((l.getD (i).toNat (⟨0, 0, 0⟩ : Act)).gAnswer) ([((l.getD (i).toNat (⟨0, 0, 0⟩ : Act)).gAnswer)]))), .bool false, .bool ((endE e (replyR q a (now + ((l.getD (i).toNat (⟨0, 0, 0⟩ : Act)).gAfter)) ((l.getD (i).toNat (⟨0, 0, 0⟩ : Act)).gAnswer) ([((l.getD (i).toNat (⟨0, 0, 0⟩ : Act)).gAnswer)]))) == 7)] 31, box b2 [.int .u8 ((l.getD (i).toNat (⟨0, 0, 0⟩ : Act)).gKind), .int .u16 ((l.getD (i).toNat (⟨0, 0, 0⟩ : Act)).gAfter), .int .u16 ((l.getD (i).toNat (⟨0, 0, 0⟩ : Act)).gAnswer)] 50, box b1 [.int .i64 q, .int .i64 a, .int .i64 e, .bool o, .bool f] 31] (by kernel_rfl) rfl (by kernel_rfl) (by kernel_rfl) rfl ?_
                  intro w36 S42
                  refine J.run 14 K8_55 [(10, .pointer (some ⟨b3, 0, none⟩)), (7, .int .i64 (now + ((l.getD (i).toNat (⟨0, 0, 0⟩ : Act)).gAfter))), (9, .pointer (some ⟨b2, 0, none⟩)), (37, .int .i64 i), (36, .int .i64 (len : Int)), (35, .slice pa len cap), (5, .pointer (some ⟨b1, 0, none⟩))] w36 (by kernel_rfl) ?_
                  refine J.ok (OK.ldBox S42 1 117 31 0 (.agg #[.int .i64 q, .int .i64 0, .int .i64 (endE e (replyR q a (now + ((l.getD (i).toNat (⟨0, 0, 0⟩ : Act)).gAfter)) ((l.getD (i).toNat (⟨0, 0, 0⟩ : Act)).gAnswer) ([((l.getD (i).toNat (⟨0, 0, 0⟩ : Act)).gAnswer)]))), .bool false, .bool ((endE e (replyR q a (now + ((l.getD (i).toNat (⟨0, 0, 0⟩ : Act)).gAfter)) ((l.getD (i).toNat (⟨0, 0, 0⟩ : Act)).gAnswer) ([((l.getD (i).toNat (⟨0, 0, 0⟩ : Act)).gAnswer)]))) == 7)]) (by kernel_rfl) rfl (by kernel_rfl)) ?_
                  refine J.callF 118 23 #[.agg #[.int .i64 q, .int .i64 0, .int .i64 (endE e (replyR q a (now + ((l.getD (i).toNat (⟨0, 0, 0⟩ : Act)).gAfter)) ((l.getD (i).toNat (⟨0, 0, 0⟩ : Act)).gAnswer) ([((l.getD (i).toNat (⟨0, 0, 0⟩ : Act)).gAnswer)]))), .bool false, .bool ((endE e (replyR q a (now + ((l.getD (i).toNat (⟨0, 0, 0⟩ : Act)).gAfter)) ((l.getD (i).toNat (⟨0, 0, 0⟩ : Act)).gAnswer) ([((l.getD (i).toNat (⟨0, 0, 0⟩ : Act)).gAnswer)]))) == 7)]] hb23 (by kernel_rfl) (valid_any q 0 (endE e (replyR q a (now + ((l.getD (i).toNat (⟨0, 0, 0⟩ : Act)).gAfter)) ((l.getD (i).toNat (⟨0, 0, 0⟩ : Act)).gAnswer) ([((l.getD (i).toNat (⟨0, 0, 0⟩ : Act)).gAnswer)]))) false ((endE e (replyR q a (now + ((l.getD (i).toNat (⟨0, 0, 0⟩ : Act)).gAfter)) ((l.getD (i).toNat (⟨0, 0, 0⟩ : Act)).gAnswer) ([((l.getD (i).toNat (⟨0, 0, 0⟩ : Act)).gAnswer)]))) == 7) _) ?_
                  rintro _ w37 ⟨rfl, T13⟩
                  have S43 : Sep w [box b4 [.int .i64 ((l.getD (i).toNat (⟨0, 0, 0⟩ : Act)).gAnswer)] 3, box b3 [.int .i64 q, .int .i64 0, .int .i64 (endE e (replyR q a (now + ((l.getD (i).toNat (⟨0, 0, 0⟩ : Act)).gAfter)) ((l.getD (i).toNat (⟨0, 0, 0⟩ : Act)).gAnswer) ([((l.getD (i).toNat (⟨0, 0, 0⟩ : Act)).gAnswer)]))), .bool false, .bool ((endE e (replyR q a (now + ((l.getD (i).toNat (⟨0, 0, 0⟩ : Act)).gAfter)) ((l.getD (i).toNat (⟨0, 0, 0⟩ : Act)).gAnswer) ([((l.getD (i).toNat (⟨0, 0, 0⟩ : Act)).gAnswer)]))) == 7)] 31, box b2 [.int .u8 ((l.getD (i).toNat (⟨0, 0, 0⟩ : Act)).gKind), .int .u16 ((l.getD (i).toNat (⟨0, 0, 0⟩ : Act)).gAfter), .int .u16 ((l.getD (i).toNat (⟨0, 0, 0⟩ : Act)).gAnswer)] 50, box b1 [.int .i64 q, .int .i64 a, .int .i64 e, .bool o, .bool f] 31] w37 := S42.trans T13
                  clear T13 S42
                  refine J.run 2 K8_56 [(120, .bool (!(validB q 0 (endE e (replyR q a (now + ((l.getD (i).toNat (⟨0, 0, 0⟩ : Act)).gAfter)) ((l.getD (i).toNat (⟨0, 0, 0⟩ : Act)).gAnswer) ([((l.getD (i).toNat (⟨0, 0, 0⟩ : Act)).gAnswer)]))) false ((endE e (replyR q a (now + ((l.getD (i).toNat (⟨0, 0, 0⟩ : Act)).gAfter)) ((l.getD (i).toNat (⟨0, 0, 0⟩ : Act)).gAnswer) ([((l.getD (i).toNat (⟨0, 0, 0⟩ : Act)).gAnswer)]))) == 7)))), (10, .pointer (some ⟨b3, 0, none⟩)), (7, .int .i64 (now + ((l.getD (i).toNat (⟨0, 0, 0⟩ : Act)).gAfter))), (9, .pointer (some ⟨b2, 0, none⟩)), (37, .int .i64 i), (36, .int .i64 (len : Int)), (35, .slice pa len cap), (5, .pointer (some ⟨b1, 0, none⟩))] w37 (by kernel_rfl) ?_
                  have fk26 : (validB q 0 (endE e (replyR q a (now + ((l.getD (i).toNat (⟨0, 0, 0⟩ : Act)).gAfter)) ((l.getD (i).toNat (⟨0, 0, 0⟩ : Act)).gAnswer) ([((l.getD (i).toNat (⟨0, 0, 0⟩ : Act)).gAnswer)]))) false ((endE e (replyR q a (now + ((l.getD (i).toNat (⟨0, 0, 0⟩ : Act)).gAfter)) ((l.getD (i).toNat (⟨0, 0, 0⟩ : Act)).gAnswer) ([((l.getD (i).toNat (⟨0, 0, 0⟩ : Act)).gAnswer)]))) == 7)) = true := valid_end hv
                  refine J.head (.bool false) (congrArg Value.bool (by rw [fk26]; rfl)) ?_
                  refine J.run 1 K8_57 [(121, .pointer (some ⟨b1, 4, none⟩)), (120, .bool false), (10, .pointer (some ⟨b3, 0, none⟩)), (7, .int .i64 (now + ((l.getD (i).toNat (⟨0, 0, 0⟩ : Act)).gAfter))), (9, .pointer (some ⟨b2, 0, none⟩)), (37, .int .i64 i), (36, .int .i64 (len : Int)), (35, .slice pa len cap), (5, .pointer (some ⟨b1, 0, none⟩))] w37 (by kernel_rfl) ?_
                  refine J.ok (OK.ldBox S43 3 122 4 4 (.bool f) (by kernel_rfl) rfl (by kernel_rfl)) ?_
                  refine J.run 1 K8_58 [(123, .bool f), (120, .bool false), (10, .pointer (some ⟨b3, 0, none⟩)), (7, .int .i64 (now + ((l.getD (i).toNat (⟨0, 0, 0⟩ : Act)).gAfter))), (9, .pointer (some ⟨b2, 0, none⟩)), (37, .int .i64 i), (36, .int .i64 (len : Int)), (35, .slice pa len cap), (5, .pointer (some ⟨b1, 0, none⟩))] w37 (by kernel_rfl) ?_
                  have fk28 : f = false := valid_open hv fk23
                  refine J.head (.bool false) (congrArg Value.bool fk28) ?_
                  refine J.run 7 K8_59 [(130, .pointer (some ⟨b2, 0, none⟩)), (129, .bool false), (10, .pointer (some ⟨b3, 0, none⟩)), (7, .int .i64 (now + ((l.getD (i).toNat (⟨0, 0, 0⟩ : Act)).gAfter))), (37, .int .i64 i), (36, .int .i64 (len : Int)), (35, .slice pa len cap), (5, .pointer (some ⟨b1, 0, none⟩))] w37 (by kernel_rfl) ?_
                  refine J.ok (OK.ldBox S43 2 131 5 0 (.int .u8 ((l.getD (i).toNat (⟨0, 0, 0⟩ : Act)).gKind)) (by kernel_rfl) rfl (by kernel_rfl)) ?_
                  refine J.run 1 K8_60 [(132, .int .u8 (Int.tmod ((l.getD (i).toNat (⟨0, 0, 0⟩ : Act)).gKind) 4)), (129, .bool false), (10, .pointer (some ⟨b3, 0, none⟩)), (7, .int .i64 (now + ((l.getD (i).toNat (⟨0, 0, 0⟩ : Act)).gAfter))), (37, .int .i64 i), (36, .int .i64 (len : Int)), (35, .slice pa len cap), (5, .pointer (some ⟨b1, 0, none⟩))] w37 (by kernel_rfl) ?_
                  refine J.head (.int .u8 (((l.getD (i).toNat (⟨0, 0, 0⟩ : Act)).gKind) % 4)) (congrArg (Value.int .u8) (IntWalk.rem_in _ _ (by omega))) ?_
                  refine J.run 2 K8_61 [(134, .bool ((((l.getD (i).toNat (⟨0, 0, 0⟩ : Act)).gKind) % 4) != 0)), (129, .bool false), (10, .pointer (some ⟨b3, 0, none⟩)), (7, .int .i64 (now + ((l.getD (i).toNat (⟨0, 0, 0⟩ : Act)).gAfter))), (37, .int .i64 i), (36, .int .i64 (len : Int)), (35, .slice pa len cap), (5, .pointer (some ⟨b1, 0, none⟩))] w37 (by kernel_rfl) ?_
                  refine J.head (.bool true) (congrArg Value.bool (bne_iff_ne.2 fk5)) ?_
                  refine J.run 1 K8_62 [(135, .pointer (some ⟨b3, 0, none⟩)), (134, .bool true), (129, .bool false), (10, .pointer (some ⟨b3, 0, none⟩)), (7, .int .i64 (now + ((l.getD (i).toNat (⟨0, 0, 0⟩ : Act)).gAfter))), (37, .int .i64 i), (36, .int .i64 (len : Int)), (35, .slice pa len cap), (5, .pointer (some ⟨b1, 0, none⟩))] w37 (by kernel_rfl) ?_
                  refine J.ok (OK.ldBox S43 1 136 3 0 (.int .i64 q) (by kernel_rfl) rfl (by kernel_rfl)) ?_
                  refine J.run 1 K8_63 [(137, .pointer (some ⟨b1, 0, none⟩)), (136, .int .i64 q), (134, .bool true), (129, .bool false), (10, .pointer (some ⟨b3, 0, none⟩)), (7, .int .i64 (now + ((l.getD (i).toNat (⟨0, 0, 0⟩ : Act)).gAfter))), (37, .int .i64 i), (36, .int .i64 (len : Int)), (35, .slice pa len cap), (5, .pointer (some ⟨b1, 0, none⟩))] w37 (by kernel_rfl) ?_
                  refine J.ok (OK.ldBox S43 3 138 3 0 (.int .i64 q) (by kernel_rfl) rfl (by kernel_rfl)) ?_
                  refine J.run 1 K8_64 [(139, .bool (q != q)), (134, .bool true), (129, .bool false), (10, .pointer (some ⟨b3, 0, none⟩)), (7, .int .i64 (now + ((l.getD (i).toNat (⟨0, 0, 0⟩ : Act)).gAfter))), (37, .int .i64 i), (36, .int .i64 (len : Int)), (35, .slice pa len cap), (5, .pointer (some ⟨b1, 0, none⟩))] w37 (by kernel_rfl) ?_
                  refine J.head (.bool false) (congrArg Value.bool (by simp)) ?_
                  refine J.run 6 K8_65 [(10, .pointer (some ⟨b3, 0, none⟩)), (7, .int .i64 (now + ((l.getD (i).toNat (⟨0, 0, 0⟩ : Act)).gAfter))), (37, .int .i64 i), (36, .int .i64 (len : Int)), (35, .slice pa len cap), (5, .pointer (some ⟨b1, 0, none⟩))] w37 (by kernel_rfl) ?_
                  refine J.ok (OK.ldBox S43 1 142 31 0 (.agg #[.int .i64 q, .int .i64 0, .int .i64 (endE e (replyR q a (now + ((l.getD (i).toNat (⟨0, 0, 0⟩ : Act)).gAfter)) ((l.getD (i).toNat (⟨0, 0, 0⟩ : Act)).gAnswer) ([((l.getD (i).toNat (⟨0, 0, 0⟩ : Act)).gAnswer)]))), .bool false, .bool ((endE e (replyR q a (now + ((l.getD (i).toNat (⟨0, 0, 0⟩ : Act)).gAfter)) ((l.getD (i).toNat (⟨0, 0, 0⟩ : Act)).gAnswer) ([((l.getD (i).toNat (⟨0, 0, 0⟩ : Act)).gAnswer)]))) == 7)]) (by kernel_rfl) rfl (by kernel_rfl)) ?_
                  refine J.stBox S43 3 31 0 (.agg #[.int .i64 q, .int .i64 0, .int .i64 (endE e (replyR q a (now + ((l.getD (i).toNat (⟨0, 0, 0⟩ : Act)).gAfter)) ((l.getD (i).toNat (⟨0, 0, 0⟩ : Act)).gAnswer) ([((l.getD (i).toNat (⟨0, 0, 0⟩ : Act)).gAnswer)]))), .bool false, .bool ((endE e (replyR q a (now + ((l.getD (i).toNat (⟨0, 0, 0⟩ : Act)).gAfter)) ((l.getD (i).toNat (⟨0, 0, 0⟩ : Act)).gAnswer) ([((l.getD (i).toNat (⟨0, 0, 0⟩ : Act)).gAnswer)]))) == 7)]) [.int .i64 q, .int .i64 0, .int .i64 (endE e (replyR q a (now + ((l.getD (i).toNat (⟨0, 0, 0⟩ : Act)).gAfter)) ((l.getD (i).toNat (⟨0, 0, 0⟩ : Act)).gAnswer) ([((l.getD (i).toNat (⟨0, 0, 0⟩ : Act)).gAnswer)]))), .bool false, .bool ((endE e (replyR q a (now + ((l.getD (i).toNat (⟨0, 0, 0⟩ : Act)).gAfter)) ((l.getD (i).toNat (⟨0, 0, 0⟩ : Act)).gAnswer) ([((l.getD (i).toNat (⟨0, 0, 0⟩ : Act)).gAnswer)]))) == 7)] [box b4 [.int .i64 ((l.getD (i).toNat (⟨0, 0, 0⟩ : Act)).gAnswer)] 3, box b3 [.int .i64 q, .int .i64 0, .int .i64 (endE e (replyR q a (now + ((l.getD (i).toNat (⟨0, 0, 0⟩ : Act)).gAfter)) ((l.getD (i).toNat (⟨0, 0, 0⟩ : Act)).gAnswer) ([((l.getD (i).toNat (⟨0, 0, 0⟩ : Act)).gAnswer)]))), .bool false, .bool ((endE e (replyR q a (now + ((l.getD (i).toNat (⟨0, 0, 0⟩ : Act)).gAfter)) ((l.getD (i).toNat (⟨0, 0, 0⟩ : Act)).gAnswer) ([((l.getD (i).toNat (⟨0, 0, 0⟩ : Act)).gAnswer)]))) == 7)] 31, box b2 [.int .u8 ((l.getD (i).toNat (⟨0, 0, 0⟩ : Act)).gKind), .int .u16 ((l.getD (i).toNat (⟨0, 0, 0⟩ : Act)).gAfter), .int .u16 ((l.getD (i).toNat (⟨0, 0, 0⟩ : Act)).gAnswer)] 50, box b1 [.int .i64 q, .int .i64 0, .int .i64 (endE e (replyR q a (now + ((l.getD (i).toNat (⟨0, 0, 0⟩ : Act)).gAfter)) ((l.getD (i).toNat (⟨0, 0, 0⟩ : Act)).gAnswer) ([((l.getD (i).toNat (⟨0, 0, 0⟩ : Act)).gAnswer)]))), .bool false, .bool ((endE e (replyR q a (now + ((l.getD (i).toNat (⟨0, 0, 0⟩ : Act)).gAfter)) ((l.getD (i).toNat (⟨0, 0, 0⟩ : Act)).gAnswer) ([((l.getD (i).toNat (⟨0, 0, 0⟩ : Act)).gAnswer)]))) == 7)] 31] (by kernel_rfl) rfl (by kernel_rfl) (by kernel_rfl) rfl ?_
                  intro w38 S44
                  refine J.run 4 K8_66 [(143, .int .i64 (IntKind.wrap .i64 (i + 1))), (7, .int .i64 (now + ((l.getD (i).toNat (⟨0, 0, 0⟩ : Act)).gAfter))), (36, .int .i64 (len : Int)), (35, .slice pa len cap), (5, .pointer (some ⟨b1, 0, none⟩))] w38 (by kernel_rfl) ?_
                  refine J.head (.int .i64 (i + 1)) (congrArg (Value.int .i64) (IntWalk.i64_in _ (by omega))) ?_
                  refine J.run 3 K8_9 [(37, .int .i64 (i + 1)), (7, .int .i64 (now + ((l.getD (i).toNat (⟨0, 0, 0⟩ : Act)).gAfter))), (36, .int .i64 (len : Int)), (35, .slice pa len cap), (5, .pointer (some ⟨b1, 0, none⟩))] w38 (by kernel_rfl) ?_
                  have S45 : Sep w [box b4 [.int .i64 ((l.getD (i).toNat (⟨0, 0, 0⟩ : Act)).gAnswer)] 3, box b3 [.int .i64 q, .int .i64 0, .int .i64 (endE e (replyR q a (now + ((l.getD (i).toNat (⟨0, 0, 0⟩ : Act)).gAfter)) ((l.getD (i).toNat (⟨0, 0, 0⟩ : Act)).gAnswer) ([((l.getD (i).toNat (⟨0, 0, 0⟩ : Act)).gAnswer)]))), .bool false, .bool ((endE e (replyR q a (now + ((l.getD (i).toNat (⟨0, 0, 0⟩ : Act)).gAfter)) ((l.getD (i).toNat (⟨0, 0, 0⟩ : Act)).gAnswer) ([((l.getD (i).toNat (⟨0, 0, 0⟩ : Act)).gAnswer)]))) == 7)] 31, box b1 [.int .i64 q, .int .i64 0, .int .i64 (endE e (replyR q a (now + ((l.getD (i).toNat (⟨0, 0, 0⟩ : Act)).gAfter)) ((l.getD (i).toNat (⟨0, 0, 0⟩ : Act)).gAnswer) ([((l.getD (i).toNat (⟨0, 0, 0⟩ : Act)).gAnswer)]))), .bool false, .bool ((endE e (replyR q a (now + ((l.getD (i).toNat (⟨0, 0, 0⟩ : Act)).gAfter)) ((l.getD (i).toNat (⟨0, 0, 0⟩ : Act)).gAnswer) ([((l.getD (i).toNat (⟨0, 0, 0⟩ : Act)).gAnswer)]))) == 7)] 31] w38 := S44.erase 2
                  clear S44
                  have S46 : Sep w [box b4 [.int .i64 ((l.getD (i).toNat (⟨0, 0, 0⟩ : Act)).gAnswer)] 3, box b1 [.int .i64 q, .int .i64 0, .int .i64 (endE e (replyR q a (now + ((l.getD (i).toNat (⟨0, 0, 0⟩ : Act)).gAfter)) ((l.getD (i).toNat (⟨0, 0, 0⟩ : Act)).gAnswer) ([((l.getD (i).toNat (⟨0, 0, 0⟩ : Act)).gAnswer)]))), .bool false, .bool ((endE e (replyR q a (now + ((l.getD (i).toNat (⟨0, 0, 0⟩ : Act)).gAfter)) ((l.getD (i).toNat (⟨0, 0, 0⟩ : Act)).gAnswer) ([((l.getD (i).toNat (⟨0, 0, 0⟩ : Act)).gAnswer)]))) == 7)] 31] w38 := S45.erase 1
                  clear S45
                  have S47 : Sep w [box b1 [.int .i64 q, .int .i64 0, .int .i64 (endE e (replyR q a (now + ((l.getD (i).toNat (⟨0, 0, 0⟩ : Act)).gAfter)) ((l.getD (i).toNat (⟨0, 0, 0⟩ : Act)).gAnswer) ([((l.getD (i).toNat (⟨0, 0, 0⟩ : Act)).gAnswer)]))), .bool false, .bool ((endE e (replyR q a (now + ((l.getD (i).toNat (⟨0, 0, 0⟩ : Act)).gAfter)) ((l.getD (i).toNat (⟨0, 0, 0⟩ : Act)).gAnswer) ([((l.getD (i).toNat (⟨0, 0, 0⟩ : Act)).gAnswer)]))) == 7)] 31] w38 := S46.erase 0
                  clear S46
                  refine J.run 0 K8_9 [(37, .int .i64 (i + 1)), (36, .int .i64 (len : Int)), (35, .slice pa len cap), (7, .int .i64 (now + ((l.getD (i).toNat (⟨0, 0, 0⟩ : Act)).gAfter))), (5, .pointer (some ⟨b1, 0, none⟩))] w38 (by kernel_rfl) ?_
                  exact ih1 _ (show ((len : Int) - (i + 1)).toNat < m from by omega) q 0 (endE e (replyR q a (now + ((l.getD (i).toNat (⟨0, 0, 0⟩ : Act)).gAfter)) ((l.getD (i).toNat (⟨0, 0, 0⟩ : Act)).gAnswer) ([((l.getD (i).toNat (⟨0, 0, 0⟩ : Act)).gAnswer)]))) false ((endE e (replyR q a (now + ((l.getD (i).toNat (⟨0, 0, 0⟩ : Act)).gAfter)) ((l.getD (i).toNat (⟨0, 0, 0⟩ : Act)).gAnswer) ([((l.getD (i).toNat (⟨0, 0, 0⟩ : Act)).gAnswer)]))) == 7) (now + ((l.getD (i).toNat (⟨0, 0, 0⟩ : Act)).gAfter)) (i + 1) w38 (by omega) (by omega) (by omega) (by omega) (fk26) S47 rfl
                · skip
                  refine J.callF 97 18 #[.agg #[.int .i64 q, .int .i64 a, .int .i64 e, .bool o, .bool f], .int .i64 (now + ((l.getD (i).toNat (⟨0, 0, 0⟩ : Act)).gAfter)), .int .i64 ((l.getD (i).toNat (⟨0, 0, 0⟩ : Act)).gAnswer), .slice (some ⟨b4, 0, none⟩) 1 1] hb18 (by kernel_rfl) (reply_any q a e o f (now + ((l.getD (i).toNat (⟨0, 0, 0⟩ : Act)).gAfter)) ((l.getD (i).toNat (⟨0, 0, 0⟩ : Act)).gAnswer) (some ⟨b4, 0, none⟩) 1 1 ([((l.getD (i).toNat (⟨0, 0, 0⟩ : Act)).gAnswer)]) _ ((box_ints [((l.getD (i).toNat (⟨0, 0, 0⟩ : Act)).gAnswer)] (S40.nth 0 rfl) rfl 1 rfl)) (by omega)) ?_
                  rintro _ w39 ⟨rfl, T14⟩
                  have S48 : Sep w [box b4 [.int .i64 ((l.getD (i).toNat (⟨0, 0, 0⟩ : Act)).gAnswer)] 3, box b3 [.int .i64 q, .int .i64 a, .int .i64 e, .bool o, .bool f] 31, box b2 [.int .u8 ((l.getD (i).toNat (⟨0, 0, 0⟩ : Act)).gKind), .int .u16 ((l.getD (i).toNat (⟨0, 0, 0⟩ : Act)).gAfter), .int .u16 ((l.getD (i).toNat (⟨0, 0, 0⟩ : Act)).gAnswer)] 50, box b1 [.int .i64 q, .int .i64 a, .int .i64 e, .bool o, .bool f] 31] w39 := S40.trans T14
                  clear T14 S40
                  refine J.head (.tuple #[.agg #[.int .i64 0, .int .i64 0, .int .i64 0, .bool false, .bool false], .int .i64 6]) (by (try simp only [replyV, zeroQ, fk20, fk17, fk21, fk22]) <;> simp [replyV, zeroQ, fk20, fk17, fk21, fk22, fk23]) ?_
                  refine J.run 3 K8_67 [(99, .int .i64 6), (98, .agg #[.int .i64 0, .int .i64 0, .int .i64 0, .bool false, .bool false]), (10, .pointer (some ⟨b3, 0, none⟩)), (7, .int .i64 (now + ((l.getD (i).toNat (⟨0, 0, 0⟩ : Act)).gAfter))), (9, .pointer (some ⟨b2, 0, none⟩)), (37, .int .i64 i), (36, .int .i64 (len : Int)), (35, .slice pa len cap), (5, .pointer (some ⟨b1, 0, none⟩))] w39 (by kernel_rfl) ?_
                  refine J.stBox S48 1 31 0 (.agg #[.int .i64 0, .int .i64 0, .int .i64 0, .bool false, .bool false]) [.int .i64 0, .int .i64 0, .int .i64 0, .bool false, .bool false] [box b4 [.int .i64 ((l.getD (i).toNat (⟨0, 0, 0⟩ : Act)).gAnswer)] 3, box b3 [.int .i64 0, .int .i64 0, .int .i64 0, .bool false, .bool false] 31, box b2 [.int .u8 ((l.getD (i).toNat (⟨0, 0, 0⟩ : Act)).gKind), .int .u16 ((l.getD (i).toNat (⟨0, 0, 0⟩ : Act)).gAfter), .int .u16 ((l.getD (i).toNat (⟨0, 0, 0⟩ : Act)).gAnswer)] 50, box b1 [.int .i64 q, .int .i64 a, .int .i64 e, .bool o, .bool f] 31] (by kernel_rfl) rfl (by kernel_rfl) (by kernel_rfl) rfl ?_
                  intro w40 S49
                  refine J.run 13 K8_68 [(11, .int .i64 6), (10, .pointer (some ⟨b3, 0, none⟩)), (7, .int .i64 (now + ((l.getD (i).toNat (⟨0, 0, 0⟩ : Act)).gAfter))), (37, .int .i64 i), (36, .int .i64 (len : Int)), (35, .slice pa len cap), (5, .pointer (some ⟨b1, 0, none⟩))] w40 (by kernel_rfl) ?_
                  refine J.ok (OK.ldBox S49 1 110 31 0 (.agg #[.int .i64 0, .int .i64 0, .int .i64 0, .bool false, .bool false]) (by kernel_rfl) rfl (by kernel_rfl)) ?_
                  refine J.run 1 K8_69 [(111, .agg #[.int .i64 0, .int .i64 0, .int .i64 0, .bool false, .bool false]), (110, .agg #[.int .i64 0, .int .i64 0, .int .i64 0, .bool false, .bool false]), (11, .int .i64 6), (7, .int .i64 (now + ((l.getD (i).toNat (⟨0, 0, 0⟩ : Act)).gAfter))), (37, .int .i64 i), (36, .int .i64 (len : Int)), (35, .slice pa len cap), (5, .pointer (some ⟨b1, 0, none⟩))] w40 (by kernel_rfl) ?_
                  refine J.ok (OK.eqS 112 false 31 #[.int .i64 0, .int .i64 0, .int .i64 0, .bool false, .bool false] #[.int .i64 0, .int .i64 0, .int .i64 0, .bool false, .bool false] (((0 : Int) == 0) && (((0 : Int) == 0) && (((0 : Int) == 0) && ((false == false) && ((false == false) && true))))) (by kernel_rfl) (by kernel_rfl) (by kernel_rfl) false (by simp)) ?_
                  refine J.run 10 K8_70 [(143, .int .i64 (IntKind.wrap .i64 (i + 1))), (7, .int .i64 (now + ((l.getD (i).toNat (⟨0, 0, 0⟩ : Act)).gAfter))), (36, .int .i64 (len : Int)), (35, .slice pa len cap), (5, .pointer (some ⟨b1, 0, none⟩))] w40 (by kernel_rfl) ?_
                  refine J.head (.int .i64 (i + 1)) (congrArg (Value.int .i64) (IntWalk.i64_in _ (by omega))) ?_
                  refine J.run 3 K8_9 [(37, .int .i64 (i + 1)), (7, .int .i64 (now + ((l.getD (i).toNat (⟨0, 0, 0⟩ : Act)).gAfter))), (36, .int .i64 (len : Int)), (35, .slice pa len cap), (5, .pointer (some ⟨b1, 0, none⟩))] w40 (by kernel_rfl) ?_
                  have S50 : Sep w [box b4 [.int .i64 ((l.getD (i).toNat (⟨0, 0, 0⟩ : Act)).gAnswer)] 3, box b3 [.int .i64 0, .int .i64 0, .int .i64 0, .bool false, .bool false] 31, box b1 [.int .i64 q, .int .i64 a, .int .i64 e, .bool o, .bool f] 31] w40 := S49.erase 2
                  clear S49
                  have S51 : Sep w [box b4 [.int .i64 ((l.getD (i).toNat (⟨0, 0, 0⟩ : Act)).gAnswer)] 3, box b1 [.int .i64 q, .int .i64 a, .int .i64 e, .bool o, .bool f] 31] w40 := S50.erase 1
                  clear S50
                  have S52 : Sep w [box b1 [.int .i64 q, .int .i64 a, .int .i64 e, .bool o, .bool f] 31] w40 := S51.erase 0
                  clear S51
                  refine J.run 0 K8_9 [(37, .int .i64 (i + 1)), (36, .int .i64 (len : Int)), (35, .slice pa len cap), (7, .int .i64 (now + ((l.getD (i).toNat (⟨0, 0, 0⟩ : Act)).gAfter))), (5, .pointer (some ⟨b1, 0, none⟩))] w40 (by kernel_rfl) ?_
                  exact ih1 _ (show ((len : Int) - (i + 1)).toNat < m from by omega) q a e o f (now + ((l.getD (i).toNat (⟨0, 0, 0⟩ : Act)).gAfter)) (i + 1) w40 (by omega) (by omega) (by omega) (by omega) (fk20) S52 rfl
              · skip
                refine J.head (.bool false) (congrArg Value.bool (beq_eq_false_iff_ne.2 fk19)) ?_
                refine J.run 3 K8_71 [(13, .int .i64 (ansF q ([((l.getD (i).toNat (⟨0, 0, 0⟩ : Act)).gAnswer)]))), (12, .slice (some ⟨b4, 0, none⟩) 1 1), (10, .pointer (some ⟨b3, 0, none⟩)), (7, .int .i64 (now + ((l.getD (i).toNat (⟨0, 0, 0⟩ : Act)).gAfter))), (9, .pointer (some ⟨b2, 0, none⟩)), (37, .int .i64 i), (36, .int .i64 (len : Int)), (35, .slice pa len cap), (5, .pointer (some ⟨b1, 0, none⟩))] w34 (by kernel_rfl) ?_
                refine J.ok (OK.ldBox S40 3 93 31 0 (.agg #[.int .i64 q, .int .i64 a, .int .i64 e, .bool o, .bool f]) (by kernel_rfl) rfl (by kernel_rfl)) ?_
                refine J.run 3 K8_72 [(96, .slice (some ⟨b4, 0, none⟩) 1 1), (95, .int .i64 (ansF q ([((l.getD (i).toNat (⟨0, 0, 0⟩ : Act)).gAnswer)]))), (94, .int .i64 (now + ((l.getD (i).toNat (⟨0, 0, 0⟩ : Act)).gAfter))), (93, .agg #[.int .i64 q, .int .i64 a, .int .i64 e, .bool o, .bool f]), (10, .pointer (some ⟨b3, 0, none⟩)), (7, .int .i64 (now + ((l.getD (i).toNat (⟨0, 0, 0⟩ : Act)).gAfter))), (9, .pointer (some ⟨b2, 0, none⟩)), (37, .int .i64 i), (36, .int .i64 (len : Int)), (35, .slice pa len cap), (5, .pointer (some ⟨b1, 0, none⟩))] w34 (by kernel_rfl) ?_
                have fk30 : (validB q a e o f) = true := hv
                have fk31 : (instantB (now + ((l.getD (i).toNat (⟨0, 0, 0⟩ : Act)).gAfter))) = true := instantB_iff.2 (by omega)
                have fk32 : (wordB (ansF q ([((l.getD (i).toNat (⟨0, 0, 0⟩ : Act)).gAnswer)]))) = true := wordB_iff.2 (by omega)
                rcases Bool.eq_false_or_eq_true o with fk33 | fk33
                · skip
                  have fk34 : ¬ ((now + ((l.getD (i).toNat (⟨0, 0, 0⟩ : Act)).gAfter)) < a) := by omega
                  refine J.callF 97 18 #[.agg #[.int .i64 q, .int .i64 a, .int .i64 e, .bool o, .bool f], .int .i64 (now + ((l.getD (i).toNat (⟨0, 0, 0⟩ : Act)).gAfter)), .int .i64 (ansF q ([((l.getD (i).toNat (⟨0, 0, 0⟩ : Act)).gAnswer)])), .slice (some ⟨b4, 0, none⟩) 1 1] hb18 (by kernel_rfl) (reply_any q a e o f (now + ((l.getD (i).toNat (⟨0, 0, 0⟩ : Act)).gAfter)) (ansF q ([((l.getD (i).toNat (⟨0, 0, 0⟩ : Act)).gAnswer)])) (some ⟨b4, 0, none⟩) 1 1 ([((l.getD (i).toNat (⟨0, 0, 0⟩ : Act)).gAnswer)]) _ ((box_ints [((l.getD (i).toNat (⟨0, 0, 0⟩ : Act)).gAnswer)] (S40.nth 0 rfl) rfl 1 rfl)) (by omega)) ?_
                  rintro _ w41 ⟨rfl, T15⟩
                  have S53 : Sep w [box b4 [.int .i64 ((l.getD (i).toNat (⟨0, 0, 0⟩ : Act)).gAnswer)] 3, box b3 [.int .i64 q, .int .i64 a, .int .i64 e, .bool o, .bool f] 31, box b2 [.int .u8 ((l.getD (i).toNat (⟨0, 0, 0⟩ : Act)).gKind), .int .u16 ((l.getD (i).toNat (⟨0, 0, 0⟩ : Act)).gAfter), .int .u16 ((l.getD (i).toNat (⟨0, 0, 0⟩ : Act)).gAnswer)] 50, box b1 [.int .i64 q, .int .i64 a, .int .i64 e, .bool o, .bool f] 31] w41 := S40.trans T15
                  clear T15 S40
                  refine J.head (.tuple #[.agg #[.int .i64 q, .int .i64 0, .int .i64 (endE e (replyR q a (now + ((l.getD (i).toNat (⟨0, 0, 0⟩ : Act)).gAfter)) (ansF q ([((l.getD (i).toNat (⟨0, 0, 0⟩ : Act)).gAnswer)])) ([((l.getD (i).toNat (⟨0, 0, 0⟩ : Act)).gAnswer)]))), .bool false, .bool ((endE e (replyR q a (now + ((l.getD (i).toNat (⟨0, 0, 0⟩ : Act)).gAfter)) (ansF q ([((l.getD (i).toNat (⟨0, 0, 0⟩ : Act)).gAnswer)])) ([((l.getD (i).toNat (⟨0, 0, 0⟩ : Act)).gAnswer)]))) == 7)], .int .i64 0]) (by (try simp only [replyV, zeroQ, fk30, fk17, fk31, fk32, fk34]) <;> simp [replyV, zeroQ, fk30, fk17, fk31, fk32, fk34, fk33]) ?_
                  refine J.run 3 K8_73 [(99, .int .i64 0), (98, .agg #[.int .i64 q, .int .i64 0, .int .i64 (endE e (replyR q a (now + ((l.getD (i).toNat (⟨0, 0, 0⟩ : Act)).gAfter)) (ansF q ([((l.getD (i).toNat (⟨0, 0, 0⟩ : Act)).gAnswer)])) ([((l.getD (i).toNat (⟨0, 0, 0⟩ : Act)).gAnswer)]))), .bool false, .bool ((endE e (replyR q a (now + ((l.getD (i).toNat (⟨0, 0, 0⟩ : Act)).gAfter)) (ansF q ([((l.getD (i).toNat (⟨0, 0, 0⟩ : Act)).gAnswer)])) ([((l.getD (i).toNat (⟨0, 0, 0⟩ : Act)).gAnswer)]))) == 7)]), (10, .pointer (some ⟨b3, 0, none⟩)), (7, .int .i64 (now + ((l.getD (i).toNat (⟨0, 0, 0⟩ : Act)).gAfter))), (9, .pointer (some ⟨b2, 0, none⟩)), (37, .int .i64 i), (36, .int .i64 (len : Int)), (35, .slice pa len cap), (5, .pointer (some ⟨b1, 0, none⟩))] w41 (by kernel_rfl) ?_
                  refine J.stBox S53 1 31 0 (.agg #[.int .i64 q, .int .i64 0, .int .i64 (endE e (replyR q a (now + ((l.getD (i).toNat (⟨0, 0, 0⟩ : Act)).gAfter)) (ansF q ([((l.getD (i).toNat (⟨0, 0, 0⟩ : Act)).gAnswer)])) ([((l.getD (i).toNat (⟨0, 0, 0⟩ : Act)).gAnswer)]))), .bool false, .bool ((endE e (replyR q a (now + ((l.getD (i).toNat (⟨0, 0, 0⟩ : Act)).gAfter)) (ansF q ([((l.getD (i).toNat (⟨0, 0, 0⟩ : Act)).gAnswer)])) ([((l.getD (i).toNat (⟨0, 0, 0⟩ : Act)).gAnswer)]))) == 7)]) [.int .i64 q, .int .i64 0, .int .i64 (endE e (replyR q a (now + ((l.getD (i).toNat (⟨0, 0, 0⟩ : Act)).gAfter)) (ansF q ([((l.getD (i).toNat (⟨0, 0, 0⟩ : Act)).gAnswer)])) ([((l.getD (i).toNat (⟨0, 0, 0⟩ : Act)).gAnswer)]))), .bool false, .bool ((endE e (replyR q a (now + ((l.getD (i).toNat (⟨0, 0, 0⟩ : Act)).gAfter)) (ansF q ([((l.getD (i).toNat (⟨0, 0, 0⟩ : Act)).gAnswer)])) ([((l.getD (i).toNat (⟨0, 0, 0⟩ : Act)).gAnswer)]))) == 7)] [box b4 [.int .i64 ((l.getD (i).toNat (⟨0, 0, 0⟩ : Act)).gAnswer)] 3, box b3 [.int .i64 q, .int .i64 0, .int .i64 (endE e (replyR q a (now + ((l.getD (i).toNat (⟨0, 0, 0⟩ : Act)).gAfter)) (ansF q ([((l.getD (i).toNat (⟨0, 0, 0⟩ : Act)).gAnswer)])) ([((l.getD (i).toNat (⟨0, 0, 0⟩ : Act)).gAnswer)]))), .bool false, .bool ((endE e (replyR q a (now + ((l.getD (i).toNat (⟨0, 0, 0⟩ : Act)).gAfter)) (ansF q ([((l.getD (i).toNat (⟨0, 0, 0⟩ : Act)).gAnswer)])) ([((l.getD (i).toNat (⟨0, 0, 0⟩ : Act)).gAnswer)]))) == 7)] 31, box b2 [.int .u8 ((l.getD (i).toNat (⟨0, 0, 0⟩ : Act)).gKind), .int .u16 ((l.getD (i).toNat (⟨0, 0, 0⟩ : Act)).gAfter), .int .u16 ((l.getD (i).toNat (⟨0, 0, 0⟩ : Act)).gAnswer)] 50, box b1 [.int .i64 q, .int .i64 a, .int .i64 e, .bool o, .bool f] 31] (by kernel_rfl) rfl (by kernel_rfl) (by kernel_rfl) rfl ?_
                  intro w42 S54
                  refine J.run 14 K8_74 [(10, .pointer (some ⟨b3, 0, none⟩)), (7, .int .i64 (now + ((l.getD (i).toNat (⟨0, 0, 0⟩ : Act)).gAfter))), (9, .pointer (some ⟨b2, 0, none⟩)), (37, .int .i64 i), (36, .int .i64 (len : Int)), (35, .slice pa len cap), (5, .pointer (some ⟨b1, 0, none⟩))] w42 (by kernel_rfl) ?_
                  refine J.ok (OK.ldBox S54 1 117 31 0 (.agg #[.int .i64 q, .int .i64 0, .int .i64 (endE e (replyR q a (now + ((l.getD (i).toNat (⟨0, 0, 0⟩ : Act)).gAfter)) (ansF q ([((l.getD (i).toNat (⟨0, 0, 0⟩ : Act)).gAnswer)])) ([((l.getD (i).toNat (⟨0, 0, 0⟩ : Act)).gAnswer)]))), .bool false, .bool ((endE e (replyR q a (now + ((l.getD (i).toNat (⟨0, 0, 0⟩ : Act)).gAfter)) (ansF q ([((l.getD (i).toNat (⟨0, 0, 0⟩ : Act)).gAnswer)])) ([((l.getD (i).toNat (⟨0, 0, 0⟩ : Act)).gAnswer)]))) == 7)]) (by kernel_rfl) rfl (by kernel_rfl)) ?_
                  refine J.callF 118 23 #[.agg #[.int .i64 q, .int .i64 0, .int .i64 (endE e (replyR q a (now + ((l.getD (i).toNat (⟨0, 0, 0⟩ : Act)).gAfter)) (ansF q ([((l.getD (i).toNat (⟨0, 0, 0⟩ : Act)).gAnswer)])) ([((l.getD (i).toNat (⟨0, 0, 0⟩ : Act)).gAnswer)]))), .bool false, .bool ((endE e (replyR q a (now + ((l.getD (i).toNat (⟨0, 0, 0⟩ : Act)).gAfter)) (ansF q ([((l.getD (i).toNat (⟨0, 0, 0⟩ : Act)).gAnswer)])) ([((l.getD (i).toNat (⟨0, 0, 0⟩ : Act)).gAnswer)]))) == 7)]] hb23 (by kernel_rfl) (valid_any q 0 (endE e (replyR q a (now + ((l.getD (i).toNat (⟨0, 0, 0⟩ : Act)).gAfter)) (ansF q ([((l.getD (i).toNat (⟨0, 0, 0⟩ : Act)).gAnswer)])) ([((l.getD (i).toNat (⟨0, 0, 0⟩ : Act)).gAnswer)]))) false ((endE e (replyR q a (now + ((l.getD (i).toNat (⟨0, 0, 0⟩ : Act)).gAfter)) (ansF q ([((l.getD (i).toNat (⟨0, 0, 0⟩ : Act)).gAnswer)])) ([((l.getD (i).toNat (⟨0, 0, 0⟩ : Act)).gAnswer)]))) == 7) _) ?_
                  rintro _ w43 ⟨rfl, T16⟩
                  have S55 : Sep w [box b4 [.int .i64 ((l.getD (i).toNat (⟨0, 0, 0⟩ : Act)).gAnswer)] 3, box b3 [.int .i64 q, .int .i64 0, .int .i64 (endE e (replyR q a (now + ((l.getD (i).toNat (⟨0, 0, 0⟩ : Act)).gAfter)) (ansF q ([((l.getD (i).toNat (⟨0, 0, 0⟩ : Act)).gAnswer)])) ([((l.getD (i).toNat (⟨0, 0, 0⟩ : Act)).gAnswer)]))), .bool false, .bool ((endE e (replyR q a (now + ((l.getD (i).toNat (⟨0, 0, 0⟩ : Act)).gAfter)) (ansF q ([((l.getD (i).toNat (⟨0, 0, 0⟩ : Act)).gAnswer)])) ([((l.getD (i).toNat (⟨0, 0, 0⟩ : Act)).gAnswer)]))) == 7)] 31, box b2 [.int .u8 ((l.getD (i).toNat (⟨0, 0, 0⟩ : Act)).gKind), .int .u16 ((l.getD (i).toNat (⟨0, 0, 0⟩ : Act)).gAfter), .int .u16 ((l.getD (i).toNat (⟨0, 0, 0⟩ : Act)).gAnswer)] 50, box b1 [.int .i64 q, .int .i64 a, .int .i64 e, .bool o, .bool f] 31] w43 := S54.trans T16
                  clear T16 S54
                  refine J.run 2 K8_75 [(120, .bool (!(validB q 0 (endE e (replyR q a (now + ((l.getD (i).toNat (⟨0, 0, 0⟩ : Act)).gAfter)) (ansF q ([((l.getD (i).toNat (⟨0, 0, 0⟩ : Act)).gAnswer)])) ([((l.getD (i).toNat (⟨0, 0, 0⟩ : Act)).gAnswer)]))) false ((endE e (replyR q a (now + ((l.getD (i).toNat (⟨0, 0, 0⟩ : Act)).gAfter)) (ansF q ([((l.getD (i).toNat (⟨0, 0, 0⟩ : Act)).gAnswer)])) ([((l.getD (i).toNat (⟨0, 0, 0⟩ : Act)).gAnswer)]))) == 7)))), (10, .pointer (some ⟨b3, 0, none⟩)), (7, .int .i64 (now + ((l.getD (i).toNat (⟨0, 0, 0⟩ : Act)).gAfter))), (9, .pointer (some ⟨b2, 0, none⟩)), (37, .int .i64 i), (36, .int .i64 (len : Int)), (35, .slice pa len cap), (5, .pointer (some ⟨b1, 0, none⟩))] w43 (by kernel_rfl) ?_
                  have fk36 : (validB q 0 (endE e (replyR q a (now + ((l.getD (i).toNat (⟨0, 0, 0⟩ : Act)).gAfter)) (ansF q ([((l.getD (i).toNat (⟨0, 0, 0⟩ : Act)).gAnswer)])) ([((l.getD (i).toNat (⟨0, 0, 0⟩ : Act)).gAnswer)]))) false ((endE e (replyR q a (now + ((l.getD (i).toNat (⟨0, 0, 0⟩ : Act)).gAfter)) (ansF q ([((l.getD (i).toNat (⟨0, 0, 0⟩ : Act)).gAnswer)])) ([((l.getD (i).toNat (⟨0, 0, 0⟩ : Act)).gAnswer)]))) == 7)) = true := valid_end hv
                  refine J.head (.bool false) (congrArg Value.bool (by rw [fk36]; rfl)) ?_
                  refine J.run 1 K8_76 [(121, .pointer (some ⟨b1, 4, none⟩)), (120, .bool false), (10, .pointer (some ⟨b3, 0, none⟩)), (7, .int .i64 (now + ((l.getD (i).toNat (⟨0, 0, 0⟩ : Act)).gAfter))), (9, .pointer (some ⟨b2, 0, none⟩)), (37, .int .i64 i), (36, .int .i64 (len : Int)), (35, .slice pa len cap), (5, .pointer (some ⟨b1, 0, none⟩))] w43 (by kernel_rfl) ?_
                  refine J.ok (OK.ldBox S55 3 122 4 4 (.bool f) (by kernel_rfl) rfl (by kernel_rfl)) ?_
                  refine J.run 1 K8_77 [(123, .bool f), (120, .bool false), (10, .pointer (some ⟨b3, 0, none⟩)), (7, .int .i64 (now + ((l.getD (i).toNat (⟨0, 0, 0⟩ : Act)).gAfter))), (9, .pointer (some ⟨b2, 0, none⟩)), (37, .int .i64 i), (36, .int .i64 (len : Int)), (35, .slice pa len cap), (5, .pointer (some ⟨b1, 0, none⟩))] w43 (by kernel_rfl) ?_
                  have fk38 : f = false := valid_open hv fk33
                  refine J.head (.bool false) (congrArg Value.bool fk38) ?_
                  refine J.run 7 K8_78 [(130, .pointer (some ⟨b2, 0, none⟩)), (129, .bool false), (10, .pointer (some ⟨b3, 0, none⟩)), (7, .int .i64 (now + ((l.getD (i).toNat (⟨0, 0, 0⟩ : Act)).gAfter))), (37, .int .i64 i), (36, .int .i64 (len : Int)), (35, .slice pa len cap), (5, .pointer (some ⟨b1, 0, none⟩))] w43 (by kernel_rfl) ?_
                  refine J.ok (OK.ldBox S55 2 131 5 0 (.int .u8 ((l.getD (i).toNat (⟨0, 0, 0⟩ : Act)).gKind)) (by kernel_rfl) rfl (by kernel_rfl)) ?_
                  refine J.run 1 K8_79 [(132, .int .u8 (Int.tmod ((l.getD (i).toNat (⟨0, 0, 0⟩ : Act)).gKind) 4)), (129, .bool false), (10, .pointer (some ⟨b3, 0, none⟩)), (7, .int .i64 (now + ((l.getD (i).toNat (⟨0, 0, 0⟩ : Act)).gAfter))), (37, .int .i64 i), (36, .int .i64 (len : Int)), (35, .slice pa len cap), (5, .pointer (some ⟨b1, 0, none⟩))] w43 (by kernel_rfl) ?_
                  refine J.head (.int .u8 (((l.getD (i).toNat (⟨0, 0, 0⟩ : Act)).gKind) % 4)) (congrArg (Value.int .u8) (IntWalk.rem_in _ _ (by omega))) ?_
                  refine J.run 2 K8_80 [(134, .bool ((((l.getD (i).toNat (⟨0, 0, 0⟩ : Act)).gKind) % 4) != 0)), (129, .bool false), (10, .pointer (some ⟨b3, 0, none⟩)), (7, .int .i64 (now + ((l.getD (i).toNat (⟨0, 0, 0⟩ : Act)).gAfter))), (37, .int .i64 i), (36, .int .i64 (len : Int)), (35, .slice pa len cap), (5, .pointer (some ⟨b1, 0, none⟩))] w43 (by kernel_rfl) ?_
                  refine J.head (.bool true) (congrArg Value.bool (bne_iff_ne.2 fk5)) ?_
                  refine J.run 1 K8_81 [(135, .pointer (some ⟨b3, 0, none⟩)), (134, .bool true), (129, .bool false), (10, .pointer (some ⟨b3, 0, none⟩)), (7, .int .i64 (now + ((l.getD (i).toNat (⟨0, 0, 0⟩ : Act)).gAfter))), (37, .int .i64 i), (36, .int .i64 (len : Int)), (35, .slice pa len cap), (5, .pointer (some ⟨b1, 0, none⟩))] w43 (by kernel_rfl) ?_
                  refine J.ok (OK.ldBox S55 1 136 3 0 (.int .i64 q) (by kernel_rfl) rfl (by kernel_rfl)) ?_
                  refine J.run 1 K8_82 [(137, .pointer (some ⟨b1, 0, none⟩)), (136, .int .i64 q), (134, .bool true), (129, .bool false), (10, .pointer (some ⟨b3, 0, none⟩)), (7, .int .i64 (now + ((l.getD (i).toNat (⟨0, 0, 0⟩ : Act)).gAfter))), (37, .int .i64 i), (36, .int .i64 (len : Int)), (35, .slice pa len cap), (5, .pointer (some ⟨b1, 0, none⟩))] w43 (by kernel_rfl) ?_
                  refine J.ok (OK.ldBox S55 3 138 3 0 (.int .i64 q) (by kernel_rfl) rfl (by kernel_rfl)) ?_
                  refine J.run 1 K8_83 [(139, .bool (q != q)), (134, .bool true), (129, .bool false), (10, .pointer (some ⟨b3, 0, none⟩)), (7, .int .i64 (now + ((l.getD (i).toNat (⟨0, 0, 0⟩ : Act)).gAfter))), (37, .int .i64 i), (36, .int .i64 (len : Int)), (35, .slice pa len cap), (5, .pointer (some ⟨b1, 0, none⟩))] w43 (by kernel_rfl) ?_
                  refine J.head (.bool false) (congrArg Value.bool (by simp)) ?_
                  refine J.run 6 K8_84 [(10, .pointer (some ⟨b3, 0, none⟩)), (7, .int .i64 (now + ((l.getD (i).toNat (⟨0, 0, 0⟩ : Act)).gAfter))), (37, .int .i64 i), (36, .int .i64 (len : Int)), (35, .slice pa len cap), (5, .pointer (some ⟨b1, 0, none⟩))] w43 (by kernel_rfl) ?_
                  refine J.ok (OK.ldBox S55 1 142 31 0 (.agg #[.int .i64 q, .int .i64 0, .int .i64 (endE e (replyR q a (now + ((l.getD (i).toNat (⟨0, 0, 0⟩ : Act)).gAfter)) (ansF q ([((l.getD (i).toNat (⟨0, 0, 0⟩ : Act)).gAnswer)])) ([((l.getD (i).toNat (⟨0, 0, 0⟩ : Act)).gAnswer)]))), .bool false, .bool ((endE e (replyR q a (now + ((l.getD (i).toNat (⟨0, 0, 0⟩ : Act)).gAfter)) (ansF q ([((l.getD (i).toNat (⟨0, 0, 0⟩ : Act)).gAnswer)])) ([((l.getD (i).toNat (⟨0, 0, 0⟩ : Act)).gAnswer)]))) == 7)]) (by kernel_rfl) rfl (by kernel_rfl)) ?_
                  refine J.stBox S55 3 31 0 (.agg #[.int .i64 q, .int .i64 0, .int .i64 (endE e (replyR q a (now + ((l.getD (i).toNat (⟨0, 0, 0⟩ : Act)).gAfter)) (ansF q ([((l.getD (i).toNat (⟨0, 0, 0⟩ : Act)).gAnswer)])) ([((l.getD (i).toNat (⟨0, 0, 0⟩ : Act)).gAnswer)]))), .bool false, .bool ((endE e (replyR q a (now + ((l.getD (i).toNat (⟨0, 0, 0⟩ : Act)).gAfter)) (ansF q ([((l.getD (i).toNat (⟨0, 0, 0⟩ : Act)).gAnswer)])) ([((l.getD (i).toNat (⟨0, 0, 0⟩ : Act)).gAnswer)]))) == 7)]) [.int .i64 q, .int .i64 0, .int .i64 (endE e (replyR q a (now + ((l.getD (i).toNat (⟨0, 0, 0⟩ : Act)).gAfter)) (ansF q ([((l.getD (i).toNat (⟨0, 0, 0⟩ : Act)).gAnswer)])) ([((l.getD (i).toNat (⟨0, 0, 0⟩ : Act)).gAnswer)]))), .bool false, .bool ((endE e (replyR q a (now + ((l.getD (i).toNat (⟨0, 0, 0⟩ : Act)).gAfter)) (ansF q ([((l.getD (i).toNat (⟨0, 0, 0⟩ : Act)).gAnswer)])) ([((l.getD (i).toNat (⟨0, 0, 0⟩ : Act)).gAnswer)]))) == 7)] [box b4 [.int .i64 ((l.getD (i).toNat (⟨0, 0, 0⟩ : Act)).gAnswer)] 3, box b3 [.int .i64 q, .int .i64 0, .int .i64 (endE e (replyR q a (now + ((l.getD (i).toNat (⟨0, 0, 0⟩ : Act)).gAfter)) (ansF q ([((l.getD (i).toNat (⟨0, 0, 0⟩ : Act)).gAnswer)])) ([((l.getD (i).toNat (⟨0, 0, 0⟩ : Act)).gAnswer)]))), .bool false, .bool ((endE e (replyR q a (now + ((l.getD (i).toNat (⟨0, 0, 0⟩ : Act)).gAfter)) (ansF q ([((l.getD (i).toNat (⟨0, 0, 0⟩ : Act)).gAnswer)])) ([((l.getD (i).toNat (⟨0, 0, 0⟩ : Act)).gAnswer)]))) == 7)] 31, box b2 [.int .u8 ((l.getD (i).toNat (⟨0, 0, 0⟩ : Act)).gKind), .int .u16 ((l.getD (i).toNat (⟨0, 0, 0⟩ : Act)).gAfter), .int .u16 ((l.getD (i).toNat (⟨0, 0, 0⟩ : Act)).gAnswer)] 50, box b1 [.int .i64 q, .int .i64 0, .int .i64 (endE e (replyR q a (now + ((l.getD (i).toNat (⟨0, 0, 0⟩ : Act)).gAfter)) (ansF q ([((l.getD (i).toNat (⟨0, 0, 0⟩ : Act)).gAnswer)])) ([((l.getD (i).toNat (⟨0, 0, 0⟩ : Act)).gAnswer)]))), .bool false, .bool ((endE e (replyR q a (now + ((l.getD (i).toNat (⟨0, 0, 0⟩ : Act)).gAfter)) (ansF q ([((l.getD (i).toNat (⟨0, 0, 0⟩ : Act)).gAnswer)])) ([((l.getD (i).toNat (⟨0, 0, 0⟩ : Act)).gAnswer)]))) == 7)] 31] (by kernel_rfl) rfl (by kernel_rfl) (by kernel_rfl) rfl ?_
                  intro w44 S56
                  refine J.run 4 K8_85 [(143, .int .i64 (IntKind.wrap .i64 (i + 1))), (7, .int .i64 (now + ((l.getD (i).toNat (⟨0, 0, 0⟩ : Act)).gAfter))), (36, .int .i64 (len : Int)), (35, .slice pa len cap), (5, .pointer (some ⟨b1, 0, none⟩))] w44 (by kernel_rfl) ?_
                  refine J.head (.int .i64 (i + 1)) (congrArg (Value.int .i64) (IntWalk.i64_in _ (by omega))) ?_
                  refine J.run 3 K8_9 [(37, .int .i64 (i + 1)), (7, .int .i64 (now + ((l.getD (i).toNat (⟨0, 0, 0⟩ : Act)).gAfter))), (36, .int .i64 (len : Int)), (35, .slice pa len cap), (5, .pointer (some ⟨b1, 0, none⟩))] w44 (by kernel_rfl) ?_
                  have S57 : Sep w [box b4 [.int .i64 ((l.getD (i).toNat (⟨0, 0, 0⟩ : Act)).gAnswer)] 3, box b3 [.int .i64 q, .int .i64 0, .int .i64 (endE e (replyR q a (now + ((l.getD (i).toNat (⟨0, 0, 0⟩ : Act)).gAfter)) (ansF q ([((l.getD (i).toNat (⟨0, 0, 0⟩ : Act)).gAnswer)])) ([((l.getD (i).toNat (⟨0, 0, 0⟩ : Act)).gAnswer)]))), .bool false, .bool ((endE e (replyR q a (now + ((l.getD (i).toNat (⟨0, 0, 0⟩ : Act)).gAfter)) (ansF q ([((l.getD (i).toNat (⟨0, 0, 0⟩ : Act)).gAnswer)])) ([((l.getD (i).toNat (⟨0, 0, 0⟩ : Act)).gAnswer)]))) == 7)] 31, box b1 [.int .i64 q, .int .i64 0, .int .i64 (endE e (replyR q a (now + ((l.getD (i).toNat (⟨0, 0, 0⟩ : Act)).gAfter)) (ansF q ([((l.getD (i).toNat (⟨0, 0, 0⟩ : Act)).gAnswer)])) ([((l.getD (i).toNat (⟨0, 0, 0⟩ : Act)).gAnswer)]))), .bool false, .bool ((endE e (replyR q a (now + ((l.getD (i).toNat (⟨0, 0, 0⟩ : Act)).gAfter)) (ansF q ([((l.getD (i).toNat (⟨0, 0, 0⟩ : Act)).gAnswer)])) ([((l.getD (i).toNat (⟨0, 0, 0⟩ : Act)).gAnswer)]))) == 7)] 31] w44 := S56.erase 2
                  clear S56
                  have S58 : Sep w [box b4 [.int .i64 ((l.getD (i).toNat (⟨0, 0, 0⟩ : Act)).gAnswer)] 3, box b1 [.int .i64 q, .int .i64 0, .int .i64 (endE e (replyR q a (now + ((l.getD (i).toNat (⟨0, 0, 0⟩ : Act)).gAfter)) (ansF q ([((l.getD (i).toNat (⟨0, 0, 0⟩ : Act)).gAnswer)])) ([((l.getD (i).toNat (⟨0, 0, 0⟩ : Act)).gAnswer)]))), .bool false, .bool ((endE e (replyR q a (now + ((l.getD (i).toNat (⟨0, 0, 0⟩ : Act)).gAfter)) (ansF q ([((l.getD (i).toNat (⟨0, 0, 0⟩ : Act)).gAnswer)])) ([((l.getD (i).toNat (⟨0, 0, 0⟩ : Act)).gAnswer)]))) == 7)] 31] w44 := S57.erase 1
                  clear S57
                  have S59 : Sep w [box b1 [.int .i64 q, .int .i64 0, .int .i64 (endE e (replyR q a (now + ((l.getD (i).toNat (⟨0, 0, 0⟩ : Act)).gAfter)) (ansF q ([((l.getD (i).toNat (⟨0, 0, 0⟩ : Act)).gAnswer)])) ([((l.getD (i).toNat (⟨0, 0, 0⟩ : Act)).gAnswer)]))), .bool false, .bool ((endE e (replyR q a (now + ((l.getD (i).toNat (⟨0, 0, 0⟩ : Act)).gAfter)) (ansF q ([((l.getD (i).toNat (⟨0, 0, 0⟩ : Act)).gAnswer)])) ([((l.getD (i).toNat (⟨0, 0, 0⟩ : Act)).gAnswer)]))) == 7)] 31] w44 := S58.erase 0
                  clear S58
                  refine J.run 0 K8_9 [(37, .int .i64 (i + 1)), (36, .int .i64 (len : Int)), (35, .slice pa len cap), (7, .int .i64 (now + ((l.getD (i).toNat (⟨0, 0, 0⟩ : Act)).gAfter))), (5, .pointer (some ⟨b1, 0, none⟩))] w44 (by kernel_rfl) ?_
                  exact ih1 _ (show ((len : Int) - (i + 1)).toNat < m from by omega) q 0 (endE e (replyR q a (now + ((l.getD (i).toNat (⟨0, 0, 0⟩ : Act)).gAfter)) (ansF q ([((l.getD (i).toNat (⟨0, 0, 0⟩ : Act)).gAnswer)])) ([((l.getD (i).toNat (⟨0, 0, 0⟩ : Act)).gAnswer)]))) false ((endE e (replyR q a (now + ((l.getD (i).toNat (⟨0, 0, 0⟩ : Act)).gAfter)) (ansF q ([((l.getD (i).toNat (⟨0, 0, 0⟩ : Act)).gAnswer)])) ([((l.getD (i).toNat (⟨0, 0, 0⟩ : Act)).gAnswer)]))) == 7) (now + ((l.getD (i).toNat (⟨0, 0, 0⟩ : Act)).gAfter)) (i + 1) w44 (by omega) (by omega) (by omega) (by omega) (fk36) S59 rfl
                · skip
                  refine J.callF 97 18 #[.agg #[.int .i64 q, .int .i64 a, .int .i64 e, .bool o, .bool f], .int .i64 (now + ((l.getD (i).toNat (⟨0, 0, 0⟩ : Act)).gAfter)), .int .i64 (ansF q ([((l.getD (i).toNat (⟨0, 0, 0⟩ : Act)).gAnswer)])), .slice (some ⟨b4, 0, none⟩) 1 1] hb18 (by kernel_rfl) (reply_any q a e o f (now + ((l.getD (i).toNat (⟨0, 0, 0⟩ : Act)).gAfter)) (ansF q ([((l.getD (i).toNat (⟨0, 0, 0⟩ : Act)).gAnswer)])) (some ⟨b4, 0, none⟩) 1 1 ([((l.getD (i).toNat (⟨0, 0, 0⟩ : Act)).gAnswer)]) _ ((box_ints [((l.getD (i).toNat (⟨0, 0, 0⟩ : Act)).gAnswer)] (S40.nth 0 rfl) rfl 1 rfl)) (by omega)) ?_
                  rintro _ w45 ⟨rfl, T17⟩
                  have S60 : Sep w [box b4 [.int .i64 ((l.getD (i).toNat (⟨0, 0, 0⟩ : Act)).gAnswer)] 3, box b3 [.int .i64 q, .int .i64 a, .int .i64 e, .bool o, .bool f] 31, box b2 [.int .u8 ((l.getD (i).toNat (⟨0, 0, 0⟩ : Act)).gKind), .int .u16 ((l.getD (i).toNat (⟨0, 0, 0⟩ : Act)).gAfter), .int .u16 ((l.getD (i).toNat (⟨0, 0, 0⟩ : Act)).gAnswer)] 50, box b1 [.int .i64 q, .int .i64 a, .int .i64 e, .bool o, .bool f] 31] w45 := S40.trans T17
                  clear T17 S40
                  refine J.head (.tuple #[.agg #[.int .i64 0, .int .i64 0, .int .i64 0, .bool false, .bool false], .int .i64 6]) (by (try simp only [replyV, zeroQ, fk30, fk17, fk31, fk32]) <;> simp [replyV, zeroQ, fk30, fk17, fk31, fk32, fk33]) ?_
                  refine J.run 3 K8_86 [(99, .int .i64 6), (98, .agg #[.int .i64 0, .int .i64 0, .int .i64 0, .bool false, .bool false]), (10, .pointer (some ⟨b3, 0, none⟩)), (7, .int .i64 (now + ((l.getD (i).toNat (⟨0, 0, 0⟩ : Act)).gAfter))), (9, .pointer (some ⟨b2, 0, none⟩)), (37, .int .i64 i), (36, .int .i64 (len : Int)), (35, .slice pa len cap), (5, .pointer (some ⟨b1, 0, none⟩))] w45 (by kernel_rfl) ?_
                  refine J.stBox S60 1 31 0 (.agg #[.int .i64 0, .int .i64 0, .int .i64 0, .bool false, .bool false]) [.int .i64 0, .int .i64 0, .int .i64 0, .bool false, .bool false] [box b4 [.int .i64 ((l.getD (i).toNat (⟨0, 0, 0⟩ : Act)).gAnswer)] 3, box b3 [.int .i64 0, .int .i64 0, .int .i64 0, .bool false, .bool false] 31, box b2 [.int .u8 ((l.getD (i).toNat (⟨0, 0, 0⟩ : Act)).gKind), .int .u16 ((l.getD (i).toNat (⟨0, 0, 0⟩ : Act)).gAfter), .int .u16 ((l.getD (i).toNat (⟨0, 0, 0⟩ : Act)).gAnswer)] 50, box b1 [.int .i64 q, .int .i64 a, .int .i64 e, .bool o, .bool f] 31] (by kernel_rfl) rfl (by kernel_rfl) (by kernel_rfl) rfl ?_
                  intro w46 S61
                  refine J.run 13 K8_87 [(11, .int .i64 6), (10, .pointer (some ⟨b3, 0, none⟩)), (7, .int .i64 (now + ((l.getD (i).toNat (⟨0, 0, 0⟩ : Act)).gAfter))), (37, .int .i64 i), (36, .int .i64 (len : Int)), (35, .slice pa len cap), (5, .pointer (some ⟨b1, 0, none⟩))] w46 (by kernel_rfl) ?_
                  refine J.ok (OK.ldBox S61 1 110 31 0 (.agg #[.int .i64 0, .int .i64 0, .int .i64 0, .bool false, .bool false]) (by kernel_rfl) rfl (by kernel_rfl)) ?_
                  refine J.run 1 K8_88 [(111, .agg #[.int .i64 0, .int .i64 0, .int .i64 0, .bool false, .bool false]), (110, .agg #[.int .i64 0, .int .i64 0, .int .i64 0, .bool false, .bool false]), (11, .int .i64 6), (7, .int .i64 (now + ((l.getD (i).toNat (⟨0, 0, 0⟩ : Act)).gAfter))), (37, .int .i64 i), (36, .int .i64 (len : Int)), (35, .slice pa len cap), (5, .pointer (some ⟨b1, 0, none⟩))] w46 (by kernel_rfl) ?_
                  refine J.ok (OK.eqS 112 false 31 #[.int .i64 0, .int .i64 0, .int .i64 0, .bool false, .bool false] #[.int .i64 0, .int .i64 0, .int .i64 0, .bool false, .bool false] (((0 : Int) == 0) && (((0 : Int) == 0) && (((0 : Int) == 0) && ((false == false) && ((false == false) && true))))) (by kernel_rfl) (by kernel_rfl) (by kernel_rfl) false (by simp)) ?_
                  refine J.run 10 K8_89 [(143, .int .i64 (IntKind.wrap .i64 (i + 1))), (7, .int .i64 (now + ((l.getD (i).toNat (⟨0, 0, 0⟩ : Act)).gAfter))), (36, .int .i64 (len : Int)), (35, .slice pa len cap), (5, .pointer (some ⟨b1, 0, none⟩))] w46 (by kernel_rfl) ?_
                  refine J.head (.int .i64 (i + 1)) (congrArg (Value.int .i64) (IntWalk.i64_in _ (by omega))) ?_
                  refine J.run 3 K8_9 [(37, .int .i64 (i + 1)), (7, .int .i64 (now + ((l.getD (i).toNat (⟨0, 0, 0⟩ : Act)).gAfter))), (36, .int .i64 (len : Int)), (35, .slice pa len cap), (5, .pointer (some ⟨b1, 0, none⟩))] w46 (by kernel_rfl) ?_
                  have S62 : Sep w [box b4 [.int .i64 ((l.getD (i).toNat (⟨0, 0, 0⟩ : Act)).gAnswer)] 3, box b3 [.int .i64 0, .int .i64 0, .int .i64 0, .bool false, .bool false] 31, box b1 [.int .i64 q, .int .i64 a, .int .i64 e, .bool o, .bool f] 31] w46 := S61.erase 2
                  clear S61
                  have S63 : Sep w [box b4 [.int .i64 ((l.getD (i).toNat (⟨0, 0, 0⟩ : Act)).gAnswer)] 3, box b1 [.int .i64 q, .int .i64 a, .int .i64 e, .bool o, .bool f] 31] w46 := S62.erase 1
                  clear S62
                  have S64 : Sep w [box b1 [.int .i64 q, .int .i64 a, .int .i64 e, .bool o, .bool f] 31] w46 := S63.erase 0
                  clear S63
                  refine J.run 0 K8_9 [(37, .int .i64 (i + 1)), (36, .int .i64 (len : Int)), (35, .slice pa len cap), (7, .int .i64 (now + ((l.getD (i).toNat (⟨0, 0, 0⟩ : Act)).gAfter))), (5, .pointer (some ⟨b1, 0, none⟩))] w46 (by kernel_rfl) ?_
                  exact ih1 _ (show ((len : Int) - (i + 1)).toNat < m from by omega) q a e o f (now + ((l.getD (i).toNat (⟨0, 0, 0⟩ : Act)).gAfter)) (i + 1) w46 (by omega) (by omega) (by omega) (by omega) (fk30) S64 rfl
            · skip
              refine J.head (.bool false) (congrArg Value.bool (beq_eq_false_iff_ne.2 fk16)) ?_
              refine J.run 5 K8_90 [(69, .bool ((((l.getD (i).toNat (⟨0, 0, 0⟩ : Act)).gKind) % 4) == 2)), (49, .int .u8 (((l.getD (i).toNat (⟨0, 0, 0⟩ : Act)).gKind) % 4)), (11, .int .i64 0), (10, .pointer (some ⟨b3, 0, none⟩)), (7, .int .i64 (now + ((l.getD (i).toNat (⟨0, 0, 0⟩ : Act)).gAfter))), (9, .pointer (some ⟨b2, 0, none⟩)), (37, .int .i64 i), (36, .int .i64 (len : Int)), (35, .slice pa len cap), (5, .pointer (some ⟨b1, 0, none⟩))] w11 (by kernel_rfl) ?_
              by_cases fk40 : (((l.getD (i).toNat (⟨0, 0, 0⟩ : Act)).gKind) % 4) = 2
              · skip
                refine J.head (.bool true) (congrArg Value.bool (beq_iff_eq.2 fk40)) ?_
                refine J.run 4 K8_91 [(72, .pointer (some ⟨b2, 2, none⟩)), (10, .pointer (some ⟨b3, 0, none⟩)), (7, .int .i64 (now + ((l.getD (i).toNat (⟨0, 0, 0⟩ : Act)).gAfter))), (9, .pointer (some ⟨b2, 0, none⟩)), (37, .int .i64 i), (36, .int .i64 (len : Int)), (35, .slice pa len cap), (5, .pointer (some ⟨b1, 0, none⟩))] w11 (by kernel_rfl) ?_
                refine J.ok (OK.ldBox S11 1 73 22 2 (.int .u16 ((l.getD (i).toNat (⟨0, 0, 0⟩ : Act)).gAnswer)) (by kernel_rfl) rfl (by kernel_rfl)) ?_
                refine J.run 1 K8_92 [(74, .int .i64 (IntKind.wrap .i64 ((l.getD (i).toNat (⟨0, 0, 0⟩ : Act)).gAnswer))), (10, .pointer (some ⟨b3, 0, none⟩)), (7, .int .i64 (now + ((l.getD (i).toNat (⟨0, 0, 0⟩ : Act)).gAfter))), (9, .pointer (some ⟨b2, 0, none⟩)), (37, .int .i64 i), (36, .int .i64 (len : Int)), (35, .slice pa len cap), (5, .pointer (some ⟨b1, 0, none⟩))] w11 (by kernel_rfl) ?_
                refine J.head (.int .i64 ((l.getD (i).toNat (⟨0, 0, 0⟩ : Act)).gAnswer)) (congrArg (Value.int .i64) (IntWalk.i64_in _ (by omega))) ?_
                refine J.newSlice S11 75 1 [.int .i64 ((l.getD (i).toNat (⟨0, 0, 0⟩ : Act)).gAnswer)] 3 (by kernel_rfl) ?_
                intro b5 w47 S65
                refine J.run 5 K8_93 [(77, .pointer (some ⟨b1, 0, none⟩)), (12, .slice (some ⟨b5, 0, none⟩) 1 1), (10, .pointer (some ⟨b3, 0, none⟩)), (7, .int .i64 (now + ((l.getD (i).toNat (⟨0, 0, 0⟩ : Act)).gAfter))), (9, .pointer (some ⟨b2, 0, none⟩)), (37, .int .i64 i), (36, .int .i64 (len : Int)), (35, .slice pa len cap), (5, .pointer (some ⟨b1, 0, none⟩))] w47 (by kernel_rfl) ?_
                refine J.ok (OK.ldBox S65 3 78 3 0 (.int .i64 q) (by kernel_rfl) rfl (by kernel_rfl)) ?_
                refine J.run 1 K8_94 [(79, .slice (some ⟨b5, 0, none⟩) 1 1), (78, .int .i64 q), (12, .slice (some ⟨b5, 0, none⟩) 1 1), (10, .pointer (some ⟨b3, 0, none⟩)), (7, .int .i64 (now + ((l.getD (i).toNat (⟨0, 0, 0⟩ : Act)).gAfter))), (9, .pointer (some ⟨b2, 0, none⟩)), (37, .int .i64 i), (36, .int .i64 (len : Int)), (35, .slice pa len cap), (5, .pointer (some ⟨b1, 0, none⟩))] w47 (by kernel_rfl) ?_
                have fk41 : (partsB ([((l.getD (i).toNat (⟨0, 0, 0⟩ : Act)).gAnswer)])) = true := parts_one (by omega)
                have fk42 : (questionB q) = true := questionB_iff.2 (by omega)
                refine J.callF 80 10 #[.int .i64 q, .slice (some ⟨b5, 0, none⟩) 1 1] hb10 (by kernel_rfl) (answer_any q (some ⟨b5, 0, none⟩) 1 1 ([((l.getD (i).toNat (⟨0, 0, 0⟩ : Act)).gAnswer)]) _ ((box_ints [((l.getD (i).toNat (⟨0, 0, 0⟩ : Act)).gAnswer)] (S65.nth 0 rfl) rfl 1 rfl)) (by omega)) ?_
                rintro _ w48 ⟨rfl, T18⟩
                have S66 : Sep w [box b5 [.int .i64 ((l.getD (i).toNat (⟨0, 0, 0⟩ : Act)).gAnswer)] 3, box b3 [.int .i64 q, .int .i64 a, .int .i64 e, .bool o, .bool f] 31, box b2 [.int .u8 ((l.getD (i).toNat (⟨0, 0, 0⟩ : Act)).gKind), .int .u16 ((l.getD (i).toNat (⟨0, 0, 0⟩ : Act)).gAfter), .int .u16 ((l.getD (i).toNat (⟨0, 0, 0⟩ : Act)).gAnswer)] 50, box b1 [.int .i64 q, .int .i64 a, .int .i64 e, .bool o, .bool f] 31] w48 := S65.trans T18
                clear T18 S65
                refine J.head (.tuple #[.int .i64 (ansF q ([((l.getD (i).toNat (⟨0, 0, 0⟩ : Act)).gAnswer)])), .int .i64 0]) (by first | (simp only [ansV, fk41, fk42, reduceCtorEq, ↓reduceIte]; done) | simp [ansV, fk41, fk42]) ?_
                have hans2 : 0 ≤ ansF q ([((l.getD (i).toNat (⟨0, 0, 0⟩ : Act)).gAnswer)]) ∧ ansF q ([((l.getD (i).toNat (⟨0, 0, 0⟩ : Act)).gAnswer)]) ≤ 65535 := ansF_bounds (by omega) _
                refine J.run 18 K8_95 [(85, .pointer (some ⟨b2, 0, none⟩)), (13, .int .i64 (ansF q ([((l.getD (i).toNat (⟨0, 0, 0⟩ : Act)).gAnswer)]))), (12, .slice (some ⟨b5, 0, none⟩) 1 1), (10, .pointer (some ⟨b3, 0, none⟩)), (7, .int .i64 (now + ((l.getD (i).toNat (⟨0, 0, 0⟩ : Act)).gAfter))), (9, .pointer (some ⟨b2, 0, none⟩)), (37, .int .i64 i), (36, .int .i64 (len : Int)), (35, .slice pa len cap), (5, .pointer (some ⟨b1, 0, none⟩))] w48 (by kernel_rfl) ?_
                refine J.ok (OK.ldBox S66 2 86 5 0 (.int .u8 ((l.getD (i).toNat (⟨0, 0, 0⟩ : Act)).gKind)) (by kernel_rfl) rfl (by kernel_rfl)) ?_
                refine J.run 1 K8_96 [(87, .int .u8 (Int.tmod ((l.getD (i).toNat (⟨0, 0, 0⟩ : Act)).gKind) 4)), (13, .int .i64 (ansF q ([((l.getD (i).toNat (⟨0, 0, 0⟩ : Act)).gAnswer)]))), (12, .slice (some ⟨b5, 0, none⟩) 1 1), (10, .pointer (some ⟨b3, 0, none⟩)), (7, .int .i64 (now + ((l.getD (i).toNat (⟨0, 0, 0⟩ : Act)).gAfter))), (9, .pointer (some ⟨b2, 0, none⟩)), (37, .int .i64 i), (36, .int .i64 (len : Int)), (35, .slice pa len cap), (5, .pointer (some ⟨b1, 0, none⟩))] w48 (by kernel_rfl) ?_
                refine J.head (.int .u8 (((l.getD (i).toNat (⟨0, 0, 0⟩ : Act)).gKind) % 4)) (congrArg (Value.int .u8) (IntWalk.rem_in _ _ (by omega))) ?_
                refine J.run 2 K8_97 [(88, .bool ((((l.getD (i).toNat (⟨0, 0, 0⟩ : Act)).gKind) % 4) == 2)), (13, .int .i64 (ansF q ([((l.getD (i).toNat (⟨0, 0, 0⟩ : Act)).gAnswer)]))), (12, .slice (some ⟨b5, 0, none⟩) 1 1), (10, .pointer (some ⟨b3, 0, none⟩)), (7, .int .i64 (now + ((l.getD (i).toNat (⟨0, 0, 0⟩ : Act)).gAfter))), (9, .pointer (some ⟨b2, 0, none⟩)), (37, .int .i64 i), (36, .int .i64 (len : Int)), (35, .slice pa len cap), (5, .pointer (some ⟨b1, 0, none⟩))] w48 (by kernel_rfl) ?_
                refine J.head (.bool true) (congrArg Value.bool (beq_iff_eq.2 fk40)) ?_
                refine J.run 3 K8_98 [(89, .pointer (some ⟨b2, 2, none⟩)), (12, .slice (some ⟨b5, 0, none⟩) 1 1), (10, .pointer (some ⟨b3, 0, none⟩)), (7, .int .i64 (now + ((l.getD (i).toNat (⟨0, 0, 0⟩ : Act)).gAfter))), (9, .pointer (some ⟨b2, 0, none⟩)), (37, .int .i64 i), (36, .int .i64 (len : Int)), (35, .slice pa len cap), (5, .pointer (some ⟨b1, 0, none⟩))] w48 (by kernel_rfl) ?_
                refine J.ok (OK.ldBox S66 2 90 22 2 (.int .u16 ((l.getD (i).toNat (⟨0, 0, 0⟩ : Act)).gAnswer)) (by kernel_rfl) rfl (by kernel_rfl)) ?_
                refine J.run 1 K8_99 [(91, .int .i64 (IntKind.wrap .i64 ((l.getD (i).toNat (⟨0, 0, 0⟩ : Act)).gAnswer))), (12, .slice (some ⟨b5, 0, none⟩) 1 1), (10, .pointer (some ⟨b3, 0, none⟩)), (7, .int .i64 (now + ((l.getD (i).toNat (⟨0, 0, 0⟩ : Act)).gAfter))), (9, .pointer (some ⟨b2, 0, none⟩)), (37, .int .i64 i), (36, .int .i64 (len : Int)), (35, .slice pa len cap), (5, .pointer (some ⟨b1, 0, none⟩))] w48 (by kernel_rfl) ?_
                refine J.head (.int .i64 ((l.getD (i).toNat (⟨0, 0, 0⟩ : Act)).gAnswer)) (congrArg (Value.int .i64) (IntWalk.i64_in _ (by omega))) ?_
                refine J.run 3 K8_100 [(13, .int .i64 ((l.getD (i).toNat (⟨0, 0, 0⟩ : Act)).gAnswer)), (12, .slice (some ⟨b5, 0, none⟩) 1 1), (10, .pointer (some ⟨b3, 0, none⟩)), (7, .int .i64 (now + ((l.getD (i).toNat (⟨0, 0, 0⟩ : Act)).gAfter))), (9, .pointer (some ⟨b2, 0, none⟩)), (37, .int .i64 i), (36, .int .i64 (len : Int)), (35, .slice pa len cap), (5, .pointer (some ⟨b1, 0, none⟩))] w48 (by kernel_rfl) ?_
                refine J.ok (OK.ldBox S66 3 93 31 0 (.agg #[.int .i64 q, .int .i64 a, .int .i64 e, .bool o, .bool f]) (by kernel_rfl) rfl (by kernel_rfl)) ?_
                refine J.run 3 K8_101 [(96, .slice (some ⟨b5, 0, none⟩) 1 1), (95, .int .i64 ((l.getD (i).toNat (⟨0, 0, 0⟩ : Act)).gAnswer)), (94, .int .i64 (now + ((l.getD (i).toNat (⟨0, 0, 0⟩ : Act)).gAfter))), (93, .agg #[.int .i64 q, .int .i64 a, .int .i64 e, .bool o, .bool f]), (10, .pointer (some ⟨b3, 0, none⟩)), (7, .int .i64 (now + ((l.getD (i).toNat (⟨0, 0, 0⟩ : Act)).gAfter))), (9, .pointer (some ⟨b2, 0, none⟩)), (37, .int .i64 i), (36, .int .i64 (len : Int)), (35, .slice pa len cap), (5, .pointer (some ⟨b1, 0, none⟩))] w48 (by kernel_rfl) ?_
                have fk44 : (validB q a e o f) = true := hv
                have fk45 : (instantB (now + ((l.getD (i).toNat (⟨0, 0, 0⟩ : Act)).gAfter))) = true := instantB_iff.2 (by omega)
                have fk46 : (wordB ((l.getD (i).toNat (⟨0, 0, 0⟩ : Act)).gAnswer)) = true := wordB_iff.2 (by omega)
                rcases Bool.eq_false_or_eq_true o with fk47 | fk47
                · skip
                  have fk48 : ¬ ((now + ((l.getD (i).toNat (⟨0, 0, 0⟩ : Act)).gAfter)) < a) := by omega
                  refine J.callF 97 18 #[.agg #[.int .i64 q, .int .i64 a, .int .i64 e, .bool o, .bool f], .int .i64 (now + ((l.getD (i).toNat (⟨0, 0, 0⟩ : Act)).gAfter)), .int .i64 ((l.getD (i).toNat (⟨0, 0, 0⟩ : Act)).gAnswer), .slice (some ⟨b5, 0, none⟩) 1 1] hb18 (by kernel_rfl) (reply_any q a e o f (now + ((l.getD (i).toNat (⟨0, 0, 0⟩ : Act)).gAfter)) ((l.getD (i).toNat (⟨0, 0, 0⟩ : Act)).gAnswer) (some ⟨b5, 0, none⟩) 1 1 ([((l.getD (i).toNat (⟨0, 0, 0⟩ : Act)).gAnswer)]) _ ((box_ints [((l.getD (i).toNat (⟨0, 0, 0⟩ : Act)).gAnswer)] (S66.nth 0 rfl) rfl 1 rfl)) (by omega)) ?_
                  rintro _ w49 ⟨rfl, T19⟩
                  have S67 : Sep w [box b5 [.int .i64 ((l.getD (i).toNat (⟨0, 0, 0⟩ : Act)).gAnswer)] 3, box b3 [.int .i64 q, .int .i64 a, .int .i64 e, .bool o, .bool f] 31, box b2 [.int .u8 ((l.getD (i).toNat (⟨0, 0, 0⟩ : Act)).gKind), .int .u16 ((l.getD (i).toNat (⟨0, 0, 0⟩ : Act)).gAfter), .int .u16 ((l.getD (i).toNat (⟨0, 0, 0⟩ : Act)).gAnswer)] 50, box b1 [.int .i64 q, .int .i64 a, .int .i64 e, .bool o, .bool f] 31] w49 := S66.trans T19
                  clear T19 S66
                  refine J.head (.tuple #[.agg #[.int .i64 q, .int .i64 0, .int .i64 (endE e (replyR q a (now + ((l.getD (i).toNat (⟨0, 0, 0⟩ : Act)).gAfter)) ((l.getD (i).toNat (⟨0, 0, 0⟩ : Act)).gAnswer) ([((l.getD (i).toNat (⟨0, 0, 0⟩ : Act)).gAnswer)]))), .bool false, .bool ((endE e (replyR q a (now + ((l.getD (i).toNat (⟨0, 0, 0⟩ : Act)).gAfter)) ((l.getD (i).toNat (⟨0, 0, 0⟩ : Act)).gAnswer) ([((l.getD (i).toNat (⟨0, 0, 0⟩ : Act)).gAnswer)]))) == 7)], .int .i64 0]) (by (try simp only [replyV, zeroQ, fk44, fk41, fk45, fk46, fk48]) <;> simp [replyV, zeroQ, fk44, fk41, fk45, fk46, fk48, fk47]) ?_
                  refine J.run 3 K8_102 [(99, .int .i64 0), (98, .agg #[.int .i64 q, .int .i64 0, .int .i64 (endE e (replyR q a (now + ((l.getD (i).toNat (⟨0, 0, 0⟩ : Act)).gAfter)) ((l.getD (i).toNat (⟨0, 0, 0⟩ : Act)).gAnswer) ([((l.getD (i).toNat (⟨0, 0, 0⟩ : Act)).gAnswer)]))), .bool false, .bool ((endE e (replyR q a (now + ((l.getD (i).toNat (⟨0, 0, 0⟩ : Act)).gAfter)) ((l.getD (i).toNat (⟨0, 0, 0⟩ : Act)).gAnswer) ([((l.getD (i).toNat (⟨0, 0, 0⟩ : Act)).gAnswer)]))) == 7)]), (10, .pointer (some ⟨b3, 0, none⟩)), (7, .int .i64 (now + ((l.getD (i).toNat (⟨0, 0, 0⟩ : Act)).gAfter))), (9, .pointer (some ⟨b2, 0, none⟩)), (37, .int .i64 i), (36, .int .i64 (len : Int)), (35, .slice pa len cap), (5, .pointer (some ⟨b1, 0, none⟩))] w49 (by kernel_rfl) ?_
                  refine J.stBox S67 1 31 0 (.agg #[.int .i64 q, .int .i64 0, .int .i64 (endE e (replyR q a (now + ((l.getD (i).toNat (⟨0, 0, 0⟩ : Act)).gAfter)) ((l.getD (i).toNat (⟨0, 0, 0⟩ : Act)).gAnswer) ([((l.getD (i).toNat (⟨0, 0, 0⟩ : Act)).gAnswer)]))), .bool false, .bool ((endE e (replyR q a (now + ((l.getD (i).toNat (⟨0, 0, 0⟩ : Act)).gAfter)) ((l.getD (i).toNat (⟨0, 0, 0⟩ : Act)).gAnswer) ([((l.getD (i).toNat (⟨0, 0, 0⟩ : Act)).gAnswer)]))) == 7)]) [.int .i64 q, .int .i64 0, .int .i64 (endE e (replyR q a (now + ((l.getD (i).toNat (⟨0, 0, 0⟩ : Act)).gAfter)) ((l.getD (i).toNat (⟨0, 0, 0⟩ : Act)).gAnswer) ([((l.getD (i).toNat (⟨0, 0, 0⟩ : Act)).gAnswer)]))), .bool false, .bool ((endE e (replyR q a (now + ((l.getD (i).toNat (⟨0, 0, 0⟩ : Act)).gAfter)) ((l.getD (i).toNat (⟨0, 0, 0⟩ : Act)).gAnswer) ([((l.getD (i).toNat (⟨0, 0, 0⟩ : Act)).gAnswer)]))) == 7)] [box b5 [.int .i64 ((l.getD (i).toNat (⟨0, 0, 0⟩ : Act)).gAnswer)] 3, box b3 [.int .i64 q, .int .i64 0, .int .i64 (endE e (replyR q a (now + ((l.getD (i).toNat (⟨0, 0, 0⟩ : Act)).gAfter)) ((l.getD (i).toNat (⟨0, 0, 0⟩ : Act)).gAnswer) ([((l.getD (i).toNat (⟨0, 0, 0⟩ : Act)).gAnswer)]))), .bool false, .bool ((endE e (replyR q a (now + ((l.getD (i).toNat (⟨0, 0, 0⟩ : Act)).gAfter)) ((l.getD (i).toNat (⟨0, 0, 0⟩ : Act)).gAnswer) ([((l.getD (i).toNat (⟨0, 0, 0⟩ : Act)).gAnswer)]))) == 7)] 31, box b2 [.int .u8 ((l.getD (i).toNat (⟨0, 0, 0⟩ : Act)).gKind), .int .u16 ((l.getD (i).toNat (⟨0, 0, 0⟩ : Act)).gAfter), .int .u16 ((l.getD (i).toNat (⟨0, 0, 0⟩ : Act)).gAnswer)] 50, box b1 [.int .i64 q, .int .i64 a, .int .i64 e, .bool o, .bool f] 31] (by kernel_rfl) rfl (by kernel_rfl) (by kernel_rfl) rfl ?_
                  intro w50 S68
                  refine J.run 14 K8_103 [(10, .pointer (some ⟨b3, 0, none⟩)), (7, .int .i64 (now + ((l.getD (i).toNat (⟨0, 0, 0⟩ : Act)).gAfter))), (9, .pointer (some ⟨b2, 0, none⟩)), (37, .int .i64 i), (36, .int .i64 (len : Int)), (35, .slice pa len cap), (5, .pointer (some ⟨b1, 0, none⟩))] w50 (by kernel_rfl) ?_
                  refine J.ok (OK.ldBox S68 1 117 31 0 (.agg #[.int .i64 q, .int .i64 0, .int .i64 (endE e (replyR q a (now + ((l.getD (i).toNat (⟨0, 0, 0⟩ : Act)).gAfter)) ((l.getD (i).toNat (⟨0, 0, 0⟩ : Act)).gAnswer) ([((l.getD (i).toNat (⟨0, 0, 0⟩ : Act)).gAnswer)]))), .bool false, .bool ((endE e (replyR q a (now + ((l.getD (i).toNat (⟨0, 0, 0⟩ : Act)).gAfter)) ((l.getD (i).toNat (⟨0, 0, 0⟩ : Act)).gAnswer) ([((l.getD (i).toNat (⟨0, 0, 0⟩ : Act)).gAnswer)]))) == 7)]) (by kernel_rfl) rfl (by kernel_rfl)) ?_
                  refine J.callF 118 23 #[.agg #[.int .i64 q, .int .i64 0, .int .i64 (endE e (replyR q a (now + ((l.getD (i).toNat (⟨0, 0, 0⟩ : Act)).gAfter)) ((l.getD (i).toNat (⟨0, 0, 0⟩ : Act)).gAnswer) ([((l.getD (i).toNat (⟨0, 0, 0⟩ : Act)).gAnswer)]))), .bool false, .bool ((endE e (replyR q a (now + ((l.getD (i).toNat (⟨0, 0, 0⟩ : Act)).gAfter)) ((l.getD (i).toNat (⟨0, 0, 0⟩ : Act)).gAnswer) ([((l.getD (i).toNat (⟨0, 0, 0⟩ : Act)).gAnswer)]))) == 7)]] hb23 (by kernel_rfl) (valid_any q 0 (endE e (replyR q a (now + ((l.getD (i).toNat (⟨0, 0, 0⟩ : Act)).gAfter)) ((l.getD (i).toNat (⟨0, 0, 0⟩ : Act)).gAnswer) ([((l.getD (i).toNat (⟨0, 0, 0⟩ : Act)).gAnswer)]))) false ((endE e (replyR q a (now + ((l.getD (i).toNat (⟨0, 0, 0⟩ : Act)).gAfter)) ((l.getD (i).toNat (⟨0, 0, 0⟩ : Act)).gAnswer) ([((l.getD (i).toNat (⟨0, 0, 0⟩ : Act)).gAnswer)]))) == 7) _) ?_
                  rintro _ w51 ⟨rfl, T20⟩
                  have S69 : Sep w [box b5 [.int .i64 ((l.getD (i).toNat (⟨0, 0, 0⟩ : Act)).gAnswer)] 3, box b3 [.int .i64 q, .int .i64 0, .int .i64 (endE e (replyR q a (now + ((l.getD (i).toNat (⟨0, 0, 0⟩ : Act)).gAfter)) ((l.getD (i).toNat (⟨0, 0, 0⟩ : Act)).gAnswer) ([((l.getD (i).toNat (⟨0, 0, 0⟩ : Act)).gAnswer)]))), .bool false, .bool ((endE e (replyR q a (now + ((l.getD (i).toNat (⟨0, 0, 0⟩ : Act)).gAfter)) ((l.getD (i).toNat (⟨0, 0, 0⟩ : Act)).gAnswer) ([((l.getD (i).toNat (⟨0, 0, 0⟩ : Act)).gAnswer)]))) == 7)] 31, box b2 [.int .u8 ((l.getD (i).toNat (⟨0, 0, 0⟩ : Act)).gKind), .int .u16 ((l.getD (i).toNat (⟨0, 0, 0⟩ : Act)).gAfter), .int .u16 ((l.getD (i).toNat (⟨0, 0, 0⟩ : Act)).gAnswer)] 50, box b1 [.int .i64 q, .int .i64 a, .int .i64 e, .bool o, .bool f] 31] w51 := S68.trans T20
                  clear T20 S68
                  refine J.run 2 K8_104 [(120, .bool (!(validB q 0 (endE e (replyR q a (now + ((l.getD (i).toNat (⟨0, 0, 0⟩ : Act)).gAfter)) ((l.getD (i).toNat (⟨0, 0, 0⟩ : Act)).gAnswer) ([((l.getD (i).toNat (⟨0, 0, 0⟩ : Act)).gAnswer)]))) false ((endE e (replyR q a (now + ((l.getD (i).toNat (⟨0, 0, 0⟩ : Act)).gAfter)) ((l.getD (i).toNat (⟨0, 0, 0⟩ : Act)).gAnswer) ([((l.getD (i).toNat (⟨0, 0, 0⟩ : Act)).gAnswer)]))) == 7)))), (10, .pointer (some ⟨b3, 0, none⟩)), (7, .int .i64 (now + ((l.getD (i).toNat (⟨0, 0, 0⟩ : Act)).gAfter))), (9, .pointer (some ⟨b2, 0, none⟩)), (37, .int .i64 i), (36, .int .i64 (len : Int)), (35, .slice pa len cap), (5, .pointer (some ⟨b1, 0, none⟩))] w51 (by kernel_rfl) ?_
                  have fk50 : (validB q 0 (endE e (replyR q a (now + ((l.getD (i).toNat (⟨0, 0, 0⟩ : Act)).gAfter)) ((l.getD (i).toNat (⟨0, 0, 0⟩ : Act)).gAnswer) ([((l.getD (i).toNat (⟨0, 0, 0⟩ : Act)).gAnswer)]))) false ((endE e (replyR q a (now + ((l.getD (i).toNat (⟨0, 0, 0⟩ : Act)).gAfter)) ((l.getD (i).toNat (⟨0, 0, 0⟩ : Act)).gAnswer) ([((l.getD (i).toNat (⟨0, 0, 0⟩ : Act)).gAnswer)]))) == 7)) = true := valid_end hv
                  refine J.head (.bool false) (congrArg Value.bool (by rw [fk50]; rfl)) ?_
                  refine J.run 1 K8_105 [(121, .pointer (some ⟨b1, 4, none⟩)), (120, .bool false), (10, .pointer (some ⟨b3, 0, none⟩)), (7, .int .i64 (now + ((l.getD (i).toNat (⟨0, 0, 0⟩ : Act)).gAfter))), (9, .pointer (some ⟨b2, 0, none⟩)), (37, .int .i64 i), (36, .int .i64 (len : Int)), (35, .slice pa len cap), (5, .pointer (some ⟨b1, 0, none⟩))] w51 (by kernel_rfl) ?_
                  refine J.ok (OK.ldBox S69 3 122 4 4 (.bool f) (by kernel_rfl) rfl (by kernel_rfl)) ?_
                  refine J.run 1 K8_106 [(123, .bool f), (120, .bool false), (10, .pointer (some ⟨b3, 0, none⟩)), (7, .int .i64 (now + ((l.getD (i).toNat (⟨0, 0, 0⟩ : Act)).gAfter))), (9, .pointer (some ⟨b2, 0, none⟩)), (37, .int .i64 i), (36, .int .i64 (len : Int)), (35, .slice pa len cap), (5, .pointer (some ⟨b1, 0, none⟩))] w51 (by kernel_rfl) ?_
                  have fk52 : f = false := valid_open hv fk47
                  refine J.head (.bool false) (congrArg Value.bool fk52) ?_
                  refine J.run 7 K8_107 [(130, .pointer (some ⟨b2, 0, none⟩)), (129, .bool false), (10, .pointer (some ⟨b3, 0, none⟩)), (7, .int .i64 (now + ((l.getD (i).toNat (⟨0, 0, 0⟩ : Act)).gAfter))), (37, .int .i64 i), (36, .int .i64 (len : Int)), (35, .slice pa len cap), (5, .pointer (some ⟨b1, 0, none⟩))] w51 (by kernel_rfl) ?_
                  refine J.ok (OK.ldBox S69 2 131 5 0 (.int .u8 ((l.getD (i).toNat (⟨0, 0, 0⟩ : Act)).gKind)) (by kernel_rfl) rfl (by kernel_rfl)) ?_
                  refine J.run 1 K8_108 [(132, .int .u8 (Int.tmod ((l.getD (i).toNat (⟨0, 0, 0⟩ : Act)).gKind) 4)), (129, .bool false), (10, .pointer (some ⟨b3, 0, none⟩)), (7, .int .i64 (now + ((l.getD (i).toNat (⟨0, 0, 0⟩ : Act)).gAfter))), (37, .int .i64 i), (36, .int .i64 (len : Int)), (35, .slice pa len cap), (5, .pointer (some ⟨b1, 0, none⟩))] w51 (by kernel_rfl) ?_
                  refine J.head (.int .u8 (((l.getD (i).toNat (⟨0, 0, 0⟩ : Act)).gKind) % 4)) (congrArg (Value.int .u8) (IntWalk.rem_in _ _ (by omega))) ?_
                  refine J.run 2 K8_109 [(134, .bool ((((l.getD (i).toNat (⟨0, 0, 0⟩ : Act)).gKind) % 4) != 0)), (129, .bool false), (10, .pointer (some ⟨b3, 0, none⟩)), (7, .int .i64 (now + ((l.getD (i).toNat (⟨0, 0, 0⟩ : Act)).gAfter))), (37, .int .i64 i), (36, .int .i64 (len : Int)), (35, .slice pa len cap), (5, .pointer (some ⟨b1, 0, none⟩))] w51 (by kernel_rfl) ?_
                  refine J.head (.bool true) (congrArg Value.bool (bne_iff_ne.2 fk5)) ?_
                  refine J.run 1 K8_110 [(135, .pointer (some ⟨b3, 0, none⟩)), (134, .bool true), (129, .bool false), (10, .pointer (some ⟨b3, 0, none⟩)), (7, .int .i64 (now + ((l.getD (i).toNat (⟨0, 0, 0⟩ : Act)).gAfter))), (37, .int .i64 i), (36, .int .i64 (len : Int)), (35, .slice pa len cap), (5, .pointer (some ⟨b1, 0, none⟩))] w51 (by kernel_rfl) ?_
                  refine J.ok (OK.ldBox S69 1 136 3 0 (.int .i64 q) (by kernel_rfl) rfl (by kernel_rfl)) ?_
                  refine J.run 1 K8_111 [(137, .pointer (some ⟨b1, 0, none⟩)), (136, .int .i64 q), (134, .bool true), (129, .bool false), (10, .pointer (some ⟨b3, 0, none⟩)), (7, .int .i64 (now + ((l.getD (i).toNat (⟨0, 0, 0⟩ : Act)).gAfter))), (37, .int .i64 i), (36, .int .i64 (len : Int)), (35, .slice pa len cap), (5, .pointer (some ⟨b1, 0, none⟩))] w51 (by kernel_rfl) ?_
                  refine J.ok (OK.ldBox S69 3 138 3 0 (.int .i64 q) (by kernel_rfl) rfl (by kernel_rfl)) ?_
                  refine J.run 1 K8_112 [(139, .bool (q != q)), (134, .bool true), (129, .bool false), (10, .pointer (some ⟨b3, 0, none⟩)), (7, .int .i64 (now + ((l.getD (i).toNat (⟨0, 0, 0⟩ : Act)).gAfter))), (37, .int .i64 i), (36, .int .i64 (len : Int)), (35, .slice pa len cap), (5, .pointer (some ⟨b1, 0, none⟩))] w51 (by kernel_rfl) ?_
                  refine J.head (.bool false) (congrArg Value.bool (by simp)) ?_
                  refine J.run 6 K8_113 [(10, .pointer (some ⟨b3, 0, none⟩)), (7, .int .i64 (now + ((l.getD (i).toNat (⟨0, 0, 0⟩ : Act)).gAfter))), (37, .int .i64 i), (36, .int .i64 (len : Int)), (35, .slice pa len cap), (5, .pointer (some ⟨b1, 0, none⟩))] w51 (by kernel_rfl) ?_
                  refine J.ok (OK.ldBox S69 1 142 31 0 (.agg #[.int .i64 q, .int .i64 0, .int .i64 (endE e (replyR q a (now + ((l.getD (i).toNat (⟨0, 0, 0⟩ : Act)).gAfter)) ((l.getD (i).toNat (⟨0, 0, 0⟩ : Act)).gAnswer) ([((l.getD (i).toNat (⟨0, 0, 0⟩ : Act)).gAnswer)]))), .bool false, .bool ((endE e (replyR q a (now + ((l.getD (i).toNat (⟨0, 0, 0⟩ : Act)).gAfter)) ((l.getD (i).toNat (⟨0, 0, 0⟩ : Act)).gAnswer) ([((l.getD (i).toNat (⟨0, 0, 0⟩ : Act)).gAnswer)]))) == 7)]) (by kernel_rfl) rfl (by kernel_rfl)) ?_
                  refine J.stBox S69 3 31 0 (.agg #[.int .i64 q, .int .i64 0, .int .i64 (endE e (replyR q a (now + ((l.getD (i).toNat (⟨0, 0, 0⟩ : Act)).gAfter)) ((l.getD (i).toNat (⟨0, 0, 0⟩ : Act)).gAnswer) ([((l.getD (i).toNat (⟨0, 0, 0⟩ : Act)).gAnswer)]))), .bool false, .bool ((endE e (replyR q a (now + ((l.getD (i).toNat (⟨0, 0, 0⟩ : Act)).gAfter)) ((l.getD (i).toNat (⟨0, 0, 0⟩ : Act)).gAnswer) ([((l.getD (i).toNat (⟨0, 0, 0⟩ : Act)).gAnswer)]))) == 7)]) [.int .i64 q, .int .i64 0, .int .i64 (endE e (replyR q a (now + ((l.getD (i).toNat (⟨0, 0, 0⟩ : Act)).gAfter)) ((l.getD (i).toNat (⟨0, 0, 0⟩ : Act)).gAnswer) ([((l.getD (i).toNat (⟨0, 0, 0⟩ : Act)).gAnswer)]))), .bool false, .bool ((endE e (replyR q a (now + ((l.getD (i).toNat (⟨0, 0, 0⟩ : Act)).gAfter)) ((l.getD (i).toNat (⟨0, 0, 0⟩ : Act)).gAnswer) ([((l.getD (i).toNat (⟨0, 0, 0⟩ : Act)).gAnswer)]))) == 7)] [box b5 [.int .i64 ((l.getD (i).toNat (⟨0, 0, 0⟩ : Act)).gAnswer)] 3, box b3 [.int .i64 q, .int .i64 0, .int .i64 (endE e (replyR q a (now + ((l.getD (i).toNat (⟨0, 0, 0⟩ : Act)).gAfter)) ((l.getD (i).toNat (⟨0, 0, 0⟩ : Act)).gAnswer) ([((l.getD (i).toNat (⟨0, 0, 0⟩ : Act)).gAnswer)]))), .bool false, .bool ((endE e (replyR q a (now + ((l.getD (i).toNat (⟨0, 0, 0⟩ : Act)).gAfter)) ((l.getD (i).toNat (⟨0, 0, 0⟩ : Act)).gAnswer) ([((l.getD (i).toNat (⟨0, 0, 0⟩ : Act)).gAnswer)]))) == 7)] 31, box b2 [.int .u8 ((l.getD (i).toNat (⟨0, 0, 0⟩ : Act)).gKind), .int .u16 ((l.getD (i).toNat (⟨0, 0, 0⟩ : Act)).gAfter), .int .u16 ((l.getD (i).toNat (⟨0, 0, 0⟩ : Act)).gAnswer)] 50, box b1 [.int .i64 q, .int .i64 0, .int .i64 (endE e (replyR q a (now + ((l.getD (i).toNat (⟨0, 0, 0⟩ : Act)).gAfter)) ((l.getD (i).toNat (⟨0, 0, 0⟩ : Act)).gAnswer) ([((l.getD (i).toNat (⟨0, 0, 0⟩ : Act)).gAnswer)]))), .bool false, .bool ((endE e (replyR q a (now + ((l.getD (i).toNat (⟨0, 0, 0⟩ : Act)).gAfter)) ((l.getD (i).toNat (⟨0, 0, 0⟩ : Act)).gAnswer) ([((l.getD (i).toNat (⟨0, 0, 0⟩ : Act)).gAnswer)]))) == 7)] 31] (by kernel_rfl) rfl (by kernel_rfl) (by kernel_rfl) rfl ?_
                  intro w52 S70
                  refine J.run 4 K8_114 [(143, .int .i64 (IntKind.wrap .i64 (i + 1))), (7, .int .i64 (now + ((l.getD (i).toNat (⟨0, 0, 0⟩ : Act)).gAfter))), (36, .int .i64 (len : Int)), (35, .slice pa len cap), (5, .pointer (some ⟨b1, 0, none⟩))] w52 (by kernel_rfl) ?_
                  refine J.head (.int .i64 (i + 1)) (congrArg (Value.int .i64) (IntWalk.i64_in _ (by omega))) ?_
                  refine J.run 3 K8_9 [(37, .int .i64 (i + 1)), (7, .int .i64 (now + ((l.getD (i).toNat (⟨0, 0, 0⟩ : Act)).gAfter))), (36, .int .i64 (len : Int)), (35, .slice pa len cap), (5, .pointer (some ⟨b1, 0, none⟩))] w52 (by kernel_rfl) ?_
                  have S71 : Sep w [box b5 [.int .i64 ((l.getD (i).toNat (⟨0, 0, 0⟩ : Act)).gAnswer)] 3, box b3 [.int .i64 q, .int .i64 0, .int .i64 (endE e (replyR q a (now + ((l.getD (i).toNat (⟨0, 0, 0⟩ : Act)).gAfter)) ((l.getD (i).toNat (⟨0, 0, 0⟩ : Act)).gAnswer) ([((l.getD (i).toNat (⟨0, 0, 0⟩ : Act)).gAnswer)]))), .bool false, .bool ((endE e (replyR q a (now + ((l.getD (i).toNat (⟨0, 0, 0⟩ : Act)).gAfter)) ((l.getD (i).toNat (⟨0, 0, 0⟩ : Act)).gAnswer) ([((l.getD (i).toNat (⟨0, 0, 0⟩ : Act)).gAnswer)]))) == 7)] 31, box b1 [.int .i64 q, .int .i64 0, .int .i64 (endE e (replyR q a (now + ((l.getD (i).toNat (⟨0, 0, 0⟩ : Act)).gAfter)) ((l.getD (i).toNat (⟨0, 0, 0⟩ : Act)).gAnswer) ([((l.getD (i).toNat (⟨0, 0, 0⟩ : Act)).gAnswer)]))), .bool false, .bool ((endE e (replyR q a (now + ((l.getD (i).toNat (⟨0, 0, 0⟩ : Act)).gAfter)) ((l.getD (i).toNat (⟨0, 0, 0⟩ : Act)).gAnswer) ([((l.getD (i).toNat (⟨0, 0, 0⟩ : Act)).gAnswer)]))) == 7)] 31] w52 := S70.erase 2
                  clear S70
                  have S72 : Sep w [box b5 [.int .i64 ((l.getD (i).toNat (⟨0, 0, 0⟩ : Act)).gAnswer)] 3, box b1 [.int .i64 q, .int .i64 0, .int .i64 (endE e (replyR q a (now + ((l.getD (i).toNat (⟨0, 0, 0⟩ : Act)).gAfter)) ((l.getD (i).toNat (⟨0, 0, 0⟩ : Act)).gAnswer) ([((l.getD (i).toNat (⟨0, 0, 0⟩ : Act)).gAnswer)]))), .bool false, .bool ((endE e (replyR q a (now + ((l.getD (i).toNat (⟨0, 0, 0⟩ : Act)).gAfter)) ((l.getD (i).toNat (⟨0, 0, 0⟩ : Act)).gAnswer) ([((l.getD (i).toNat (⟨0, 0, 0⟩ : Act)).gAnswer)]))) == 7)] 31] w52 := S71.erase 1
                  clear S71
                  have S73 : Sep w [box b1 [.int .i64 q, .int .i64 0, .int .i64 (endE e (replyR q a (now + ((l.getD (i).toNat (⟨0, 0, 0⟩ : Act)).gAfter)) ((l.getD (i).toNat (⟨0, 0, 0⟩ : Act)).gAnswer) ([((l.getD (i).toNat (⟨0, 0, 0⟩ : Act)).gAnswer)]))), .bool false, .bool ((endE e (replyR q a (now + ((l.getD (i).toNat (⟨0, 0, 0⟩ : Act)).gAfter)) ((l.getD (i).toNat (⟨0, 0, 0⟩ : Act)).gAnswer) ([((l.getD (i).toNat (⟨0, 0, 0⟩ : Act)).gAnswer)]))) == 7)] 31] w52 := S72.erase 0
                  clear S72
                  refine J.run 0 K8_9 [(37, .int .i64 (i + 1)), (36, .int .i64 (len : Int)), (35, .slice pa len cap), (7, .int .i64 (now + ((l.getD (i).toNat (⟨0, 0, 0⟩ : Act)).gAfter))), (5, .pointer (some ⟨b1, 0, none⟩))] w52 (by kernel_rfl) ?_
                  exact ih1 _ (show ((len : Int) - (i + 1)).toNat < m from by omega) q 0 (endE e (replyR q a (now + ((l.getD (i).toNat (⟨0, 0, 0⟩ : Act)).gAfter)) ((l.getD (i).toNat (⟨0, 0, 0⟩ : Act)).gAnswer) ([((l.getD (i).toNat (⟨0, 0, 0⟩ : Act)).gAnswer)]))) false ((endE e (replyR q a (now + ((l.getD (i).toNat (⟨0, 0, 0⟩ : Act)).gAfter)) ((l.getD (i).toNat (⟨0, 0, 0⟩ : Act)).gAnswer) ([((l.getD (i).toNat (⟨0, 0, 0⟩ : Act)).gAnswer)]))) == 7) (now + ((l.getD (i).toNat (⟨0, 0, 0⟩ : Act)).gAfter)) (i + 1) w52 (by omega) (by omega) (by omega) (by omega) (fk50) S73 rfl
                · skip
                  refine J.callF 97 18 #[.agg #[.int .i64 q, .int .i64 a, .int .i64 e, .bool o, .bool f], .int .i64 (now + ((l.getD (i).toNat (⟨0, 0, 0⟩ : Act)).gAfter)), .int .i64 ((l.getD (i).toNat (⟨0, 0, 0⟩ : Act)).gAnswer), .slice (some ⟨b5, 0, none⟩) 1 1] hb18 (by kernel_rfl) (reply_any q a e o f (now + ((l.getD (i).toNat (⟨0, 0, 0⟩ : Act)).gAfter)) ((l.getD (i).toNat (⟨0, 0, 0⟩ : Act)).gAnswer) (some ⟨b5, 0, none⟩) 1 1 ([((l.getD (i).toNat (⟨0, 0, 0⟩ : Act)).gAnswer)]) _ ((box_ints [((l.getD (i).toNat (⟨0, 0, 0⟩ : Act)).gAnswer)] (S66.nth 0 rfl) rfl 1 rfl)) (by omega)) ?_
                  rintro _ w53 ⟨rfl, T21⟩
                  have S74 : Sep w [box b5 [.int .i64 ((l.getD (i).toNat (⟨0, 0, 0⟩ : Act)).gAnswer)] 3, box b3 [.int .i64 q, .int .i64 a, .int .i64 e, .bool o, .bool f] 31, box b2 [.int .u8 ((l.getD (i).toNat (⟨0, 0, 0⟩ : Act)).gKind), .int .u16 ((l.getD (i).toNat (⟨0, 0, 0⟩ : Act)).gAfter), .int .u16 ((l.getD (i).toNat (⟨0, 0, 0⟩ : Act)).gAnswer)] 50, box b1 [.int .i64 q, .int .i64 a, .int .i64 e, .bool o, .bool f] 31] w53 := S66.trans T21
                  clear T21 S66
                  refine J.head (.tuple #[.agg #[.int .i64 0, .int .i64 0, .int .i64 0, .bool false, .bool false], .int .i64 6]) (by (try simp only [replyV, zeroQ, fk44, fk41, fk45, fk46]) <;> simp [replyV, zeroQ, fk44, fk41, fk45, fk46, fk47]) ?_
                  refine J.run 3 K8_115 [(99, .int .i64 6), (98, .agg #[.int .i64 0, .int .i64 0, .int .i64 0, .bool false, .bool false]), (10, .pointer (some ⟨b3, 0, none⟩)), (7, .int .i64 (now + ((l.getD (i).toNat (⟨0, 0, 0⟩ : Act)).gAfter))), (9, .pointer (some ⟨b2, 0, none⟩)), (37, .int .i64 i), (36, .int .i64 (len : Int)), (35, .slice pa len cap), (5, .pointer (some ⟨b1, 0, none⟩))] w53 (by kernel_rfl) ?_
                  refine J.stBox S74 1 31 0 (.agg #[.int .i64 0, .int .i64 0, .int .i64 0, .bool false, .bool false]) [.int .i64 0, .int .i64 0, .int .i64 0, .bool false, .bool false] [box b5 [.int .i64 ((l.getD (i).toNat (⟨0, 0, 0⟩ : Act)).gAnswer)] 3, box b3 [.int .i64 0, .int .i64 0, .int .i64 0, .bool false, .bool false] 31, box b2 [.int .u8 ((l.getD (i).toNat (⟨0, 0, 0⟩ : Act)).gKind), .int .u16 ((l.getD (i).toNat (⟨0, 0, 0⟩ : Act)).gAfter), .int .u16 ((l.getD (i).toNat (⟨0, 0, 0⟩ : Act)).gAnswer)] 50, box b1 [.int .i64 q, .int .i64 a, .int .i64 e, .bool o, .bool f] 31] (by kernel_rfl) rfl (by kernel_rfl) (by kernel_rfl) rfl ?_
                  intro w54 S75
                  refine J.run 13 K8_116 [(11, .int .i64 6), (10, .pointer (some ⟨b3, 0, none⟩)), (7, .int .i64 (now + ((l.getD (i).toNat (⟨0, 0, 0⟩ : Act)).gAfter))), (37, .int .i64 i), (36, .int .i64 (len : Int)), (35, .slice pa len cap), (5, .pointer (some ⟨b1, 0, none⟩))] w54 (by kernel_rfl) ?_
                  refine J.ok (OK.ldBox S75 1 110 31 0 (.agg #[.int .i64 0, .int .i64 0, .int .i64 0, .bool false, .bool false]) (by kernel_rfl) rfl (by kernel_rfl)) ?_
                  refine J.run 1 K8_117 [(111, .agg #[.int .i64 0, .int .i64 0, .int .i64 0, .bool false, .bool false]), (110, .agg #[.int .i64 0, .int .i64 0, .int .i64 0, .bool false, .bool false]), (11, .int .i64 6), (7, .int .i64 (now + ((l.getD (i).toNat (⟨0, 0, 0⟩ : Act)).gAfter))), (37, .int .i64 i), (36, .int .i64 (len : Int)), (35, .slice pa len cap), (5, .pointer (some ⟨b1, 0, none⟩))] w54 (by kernel_rfl) ?_
                  refine J.ok (OK.eqS 112 false 31 #[.int .i64 0, .int .i64 0, .int .i64 0, .bool false, .bool false] #[.int .i64 0, .int .i64 0, .int .i64 0, .bool false, .bool false] (((0 : Int) == 0) && (((0 : Int) == 0) && (((0 : Int) == 0) && ((false == false) && ((false == false) && true))))) (by kernel_rfl) (by kernel_rfl) (by kernel_rfl) false (by simp)) ?_
                  refine J.run 10 K8_118 [(143, .int .i64 (IntKind.wrap .i64 (i + 1))), (7, .int .i64 (now + ((l.getD (i).toNat (⟨0, 0, 0⟩ : Act)).gAfter))), (36, .int .i64 (len : Int)), (35, .slice pa len cap), (5, .pointer (some ⟨b1, 0, none⟩))] w54 (by kernel_rfl) ?_
                  refine J.head (.int .i64 (i + 1)) (congrArg (Value.int .i64) (IntWalk.i64_in _ (by omega))) ?_
                  refine J.run 3 K8_9 [(37, .int .i64 (i + 1)), (7, .int .i64 (now + ((l.getD (i).toNat (⟨0, 0, 0⟩ : Act)).gAfter))), (36, .int .i64 (len : Int)), (35, .slice pa len cap), (5, .pointer (some ⟨b1, 0, none⟩))] w54 (by kernel_rfl) ?_
                  have S76 : Sep w [box b5 [.int .i64 ((l.getD (i).toNat (⟨0, 0, 0⟩ : Act)).gAnswer)] 3, box b3 [.int .i64 0, .int .i64 0, .int .i64 0, .bool false, .bool false] 31, box b1 [.int .i64 q, .int .i64 a, .int .i64 e, .bool o, .bool f] 31] w54 := S75.erase 2
                  clear S75
                  have S77 : Sep w [box b5 [.int .i64 ((l.getD (i).toNat (⟨0, 0, 0⟩ : Act)).gAnswer)] 3, box b1 [.int .i64 q, .int .i64 a, .int .i64 e, .bool o, .bool f] 31] w54 := S76.erase 1
                  clear S76
                  have S78 : Sep w [box b1 [.int .i64 q, .int .i64 a, .int .i64 e, .bool o, .bool f] 31] w54 := S77.erase 0
                  clear S77
                  refine J.run 0 K8_9 [(37, .int .i64 (i + 1)), (36, .int .i64 (len : Int)), (35, .slice pa len cap), (7, .int .i64 (now + ((l.getD (i).toNat (⟨0, 0, 0⟩ : Act)).gAfter))), (5, .pointer (some ⟨b1, 0, none⟩))] w54 (by kernel_rfl) ?_
                  exact ih1 _ (show ((len : Int) - (i + 1)).toNat < m from by omega) q a e o f (now + ((l.getD (i).toNat (⟨0, 0, 0⟩ : Act)).gAfter)) (i + 1) w54 (by omega) (by omega) (by omega) (by omega) (fk44) S78 rfl
              · skip
                refine J.head (.bool false) (congrArg Value.bool (beq_eq_false_iff_ne.2 fk40)) ?_
                refine J.run 6 K8_119 [(100, .bool ((((l.getD (i).toNat (⟨0, 0, 0⟩ : Act)).gKind) % 4) == 3)), (11, .int .i64 0), (10, .pointer (some ⟨b3, 0, none⟩)), (7, .int .i64 (now + ((l.getD (i).toNat (⟨0, 0, 0⟩ : Act)).gAfter))), (9, .pointer (some ⟨b2, 0, none⟩)), (37, .int .i64 i), (36, .int .i64 (len : Int)), (35, .slice pa len cap), (5, .pointer (some ⟨b1, 0, none⟩))] w11 (by kernel_rfl) ?_
                by_cases fk54 : (((l.getD (i).toNat (⟨0, 0, 0⟩ : Act)).gKind) % 4) = 3
                · skip
                  refine J.head (.bool true) (congrArg Value.bool (beq_iff_eq.2 fk54)) ?_
                  refine J.run 2 K8_120 [(10, .pointer (some ⟨b3, 0, none⟩)), (7, .int .i64 (now + ((l.getD (i).toNat (⟨0, 0, 0⟩ : Act)).gAfter))), (9, .pointer (some ⟨b2, 0, none⟩)), (37, .int .i64 i), (36, .int .i64 (len : Int)), (35, .slice pa len cap), (5, .pointer (some ⟨b1, 0, none⟩))] w11 (by kernel_rfl) ?_
                  refine J.ok (OK.ldBox S11 2 103 31 0 (.agg #[.int .i64 q, .int .i64 a, .int .i64 e, .bool o, .bool f]) (by kernel_rfl) rfl (by kernel_rfl)) ?_
                  refine J.run 1 K8_121 [(104, .int .i64 (now + ((l.getD (i).toNat (⟨0, 0, 0⟩ : Act)).gAfter))), (103, .agg #[.int .i64 q, .int .i64 a, .int .i64 e, .bool o, .bool f]), (10, .pointer (some ⟨b3, 0, none⟩)), (7, .int .i64 (now + ((l.getD (i).toNat (⟨0, 0, 0⟩ : Act)).gAfter))), (9, .pointer (some ⟨b2, 0, none⟩)), (37, .int .i64 i), (36, .int .i64 (len : Int)), (35, .slice pa len cap), (5, .pointer (some ⟨b1, 0, none⟩))] w11 (by kernel_rfl) ?_
                  have fk55 : (validB q a e o f) = true := hv
                  have fk56 : (instantB (now + ((l.getD (i).toNat (⟨0, 0, 0⟩ : Act)).gAfter))) = true := instantB_iff.2 (by omega)
                  rcases Bool.eq_false_or_eq_true o with fk57 | fk57
                  · skip
                    have fk58 : ¬ ((now + ((l.getD (i).toNat (⟨0, 0, 0⟩ : Act)).gAfter)) < a) := by omega
                    by_cases fk59 : 20000 < ((now + ((l.getD (i).toNat (⟨0, 0, 0⟩ : Act)).gAfter)) - a)
                    · skip
                      refine J.callF 105 19 #[.agg #[.int .i64 q, .int .i64 a, .int .i64 e, .bool o, .bool f], .int .i64 (now + ((l.getD (i).toNat (⟨0, 0, 0⟩ : Act)).gAfter))] hb19 (by kernel_rfl) (tick_any q a e o f (now + ((l.getD (i).toNat (⟨0, 0, 0⟩ : Act)).gAfter)) _) ?_
                      rintro _ w55 ⟨rfl, T22⟩
                      have S79 : Sep w [box b3 [.int .i64 q, .int .i64 a, .int .i64 e, .bool o, .bool f] 31, box b2 [.int .u8 ((l.getD (i).toNat (⟨0, 0, 0⟩ : Act)).gKind), .int .u16 ((l.getD (i).toNat (⟨0, 0, 0⟩ : Act)).gAfter), .int .u16 ((l.getD (i).toNat (⟨0, 0, 0⟩ : Act)).gAnswer)] 50, box b1 [.int .i64 q, .int .i64 a, .int .i64 e, .bool o, .bool f] 31] w55 := S11.trans T22
                      clear T22 S11
                      refine J.head (.tuple #[.agg #[.int .i64 q, .int .i64 0, .int .i64 (endE e false), .bool false, .bool ((endE e false) == 7)], .int .i64 0]) (by (try simp only [tickV, zeroQ, fk55, fk56, fk58, fk59]) <;> simp [tickV, zeroQ, fk55, fk56, fk58, fk59, fk57]) ?_
                      refine J.run 3 K8_122 [(107, .int .i64 0), (106, .agg #[.int .i64 q, .int .i64 0, .int .i64 (endE e false), .bool false, .bool ((endE e false) == 7)]), (10, .pointer (some ⟨b3, 0, none⟩)), (7, .int .i64 (now + ((l.getD (i).toNat (⟨0, 0, 0⟩ : Act)).gAfter))), (9, .pointer (some ⟨b2, 0, none⟩)), (37, .int .i64 i), (36, .int .i64 (len : Int)), (35, .slice pa len cap), (5, .pointer (some ⟨b1, 0, none⟩))] w55 (by kernel_rfl) ?_
                      refine J.stBox S79 0 31 0 (.agg #[.int .i64 q, .int .i64 0, .int .i64 (endE e false), .bool false, .bool ((endE e false) == 7)]) [.int .i64 q, .int .i64 0, .int .i64 (endE e false), .bool false, .bool ((endE e false) == 7)] [box b3 [.int .i64 q, .int .i64 0, .int .i64 (endE e false), .bool false, .bool ((endE e false) == 7)] 31, box b2 [.int .u8 ((l.getD (i).toNat (⟨0, 0, 0⟩ : Act)).gKind), .int .u16 ((l.getD (i).toNat (⟨0, 0, 0⟩ : Act)).gAfter), .int .u16 ((l.getD (i).toNat (⟨0, 0, 0⟩ : Act)).gAnswer)] 50, box b1 [.int .i64 q, .int .i64 a, .int .i64 e, .bool o, .bool f] 31] (by kernel_rfl) rfl (by kernel_rfl) (by kernel_rfl) rfl ?_
                      intro w56 S80
                      refine J.run 14 K8_123 [(10, .pointer (some ⟨b3, 0, none⟩)), (7, .int .i64 (now + ((l.getD (i).toNat (⟨0, 0, 0⟩ : Act)).gAfter))), (9, .pointer (some ⟨b2, 0, none⟩)), (37, .int .i64 i), (36, .int .i64 (len : Int)), (35, .slice pa len cap), (5, .pointer (some ⟨b1, 0, none⟩))] w56 (by kernel_rfl) ?_
                      refine J.ok (OK.ldBox S80 0 117 31 0 (.agg #[.int .i64 q, .int .i64 0, .int .i64 (endE e false), .bool false, .bool ((endE e false) == 7)]) (by kernel_rfl) rfl (by kernel_rfl)) ?_
                      refine J.callF 118 23 #[.agg #[.int .i64 q, .int .i64 0, .int .i64 (endE e false), .bool false, .bool ((endE e false) == 7)]] hb23 (by kernel_rfl) (valid_any q 0 (endE e false) false ((endE e false) == 7) _) ?_
                      rintro _ w57 ⟨rfl, T23⟩
                      have S81 : Sep w [box b3 [.int .i64 q, .int .i64 0, .int .i64 (endE e false), .bool false, .bool ((endE e false) == 7)] 31, box b2 [.int .u8 ((l.getD (i).toNat (⟨0, 0, 0⟩ : Act)).gKind), .int .u16 ((l.getD (i).toNat (⟨0, 0, 0⟩ : Act)).gAfter), .int .u16 ((l.getD (i).toNat (⟨0, 0, 0⟩ : Act)).gAnswer)] 50, box b1 [.int .i64 q, .int .i64 a, .int .i64 e, .bool o, .bool f] 31] w57 := S80.trans T23
                      clear T23 S80
                      refine J.run 2 K8_124 [(120, .bool (!(validB q 0 (endE e false) false ((endE e false) == 7)))), (10, .pointer (some ⟨b3, 0, none⟩)), (7, .int .i64 (now + ((l.getD (i).toNat (⟨0, 0, 0⟩ : Act)).gAfter))), (9, .pointer (some ⟨b2, 0, none⟩)), (37, .int .i64 i), (36, .int .i64 (len : Int)), (35, .slice pa len cap), (5, .pointer (some ⟨b1, 0, none⟩))] w57 (by kernel_rfl) ?_
                      have fk61 : (validB q 0 (endE e false) false ((endE e false) == 7)) = true := valid_end hv
                      refine J.head (.bool false) (congrArg Value.bool (by rw [fk61]; rfl)) ?_
                      refine J.run 1 K8_125 [(121, .pointer (some ⟨b1, 4, none⟩)), (120, .bool false), (10, .pointer (some ⟨b3, 0, none⟩)), (7, .int .i64 (now + ((l.getD (i).toNat (⟨0, 0, 0⟩ : Act)).gAfter))), (9, .pointer (some ⟨b2, 0, none⟩)), (37, .int .i64 i), (36, .int .i64 (len : Int)), (35, .slice pa len cap), (5, .pointer (some ⟨b1, 0, none⟩))] w57 (by kernel_rfl) ?_
                      refine J.ok (OK.ldBox S81 2 122 4 4 (.bool f) (by kernel_rfl) rfl (by kernel_rfl)) ?_
                      refine J.run 1 K8_126 [(123, .bool f), (120, .bool false), (10, .pointer (some ⟨b3, 0, none⟩)), (7, .int .i64 (now + ((l.getD (i).toNat (⟨0, 0, 0⟩ : Act)).gAfter))), (9, .pointer (some ⟨b2, 0, none⟩)), (37, .int .i64 i), (36, .int .i64 (len : Int)), (35, .slice pa len cap), (5, .pointer (some ⟨b1, 0, none⟩))] w57 (by kernel_rfl) ?_
                      have fk63 : f = false := valid_open hv fk57
                      refine J.head (.bool false) (congrArg Value.bool fk63) ?_
                      refine J.run 7 K8_127 [(130, .pointer (some ⟨b2, 0, none⟩)), (129, .bool false), (10, .pointer (some ⟨b3, 0, none⟩)), (7, .int .i64 (now + ((l.getD (i).toNat (⟨0, 0, 0⟩ : Act)).gAfter))), (37, .int .i64 i), (36, .int .i64 (len : Int)), (35, .slice pa len cap), (5, .pointer (some ⟨b1, 0, none⟩))] w57 (by kernel_rfl) ?_
                      refine J.ok (OK.ldBox S81 1 131 5 0 (.int .u8 ((l.getD (i).toNat (⟨0, 0, 0⟩ : Act)).gKind)) (by kernel_rfl) rfl (by kernel_rfl)) ?_
                      refine J.run 1 K8_128 [(132, .int .u8 (Int.tmod ((l.getD (i).toNat (⟨0, 0, 0⟩ : Act)).gKind) 4)), (129, .bool false), (10, .pointer (some ⟨b3, 0, none⟩)), (7, .int .i64 (now + ((l.getD (i).toNat (⟨0, 0, 0⟩ : Act)).gAfter))), (37, .int .i64 i), (36, .int .i64 (len : Int)), (35, .slice pa len cap), (5, .pointer (some ⟨b1, 0, none⟩))] w57 (by kernel_rfl) ?_
                      refine J.head (.int .u8 (((l.getD (i).toNat (⟨0, 0, 0⟩ : Act)).gKind) % 4)) (congrArg (Value.int .u8) (IntWalk.rem_in _ _ (by omega))) ?_
                      refine J.run 2 K8_129 [(134, .bool ((((l.getD (i).toNat (⟨0, 0, 0⟩ : Act)).gKind) % 4) != 0)), (129, .bool false), (10, .pointer (some ⟨b3, 0, none⟩)), (7, .int .i64 (now + ((l.getD (i).toNat (⟨0, 0, 0⟩ : Act)).gAfter))), (37, .int .i64 i), (36, .int .i64 (len : Int)), (35, .slice pa len cap), (5, .pointer (some ⟨b1, 0, none⟩))] w57 (by kernel_rfl) ?_
                      refine J.head (.bool true) (congrArg Value.bool (bne_iff_ne.2 fk5)) ?_
                      refine J.run 1 K8_130 [(135, .pointer (some ⟨b3, 0, none⟩)), (134, .bool true), (129, .bool false), (10, .pointer (some ⟨b3, 0, none⟩)), (7, .int .i64 (now + ((l.getD (i).toNat (⟨0, 0, 0⟩ : Act)).gAfter))), (37, .int .i64 i), (36, .int .i64 (len : Int)), (35, .slice pa len cap), (5, .pointer (some ⟨b1, 0, none⟩))] w57 (by kernel_rfl) ?_
                      refine J.ok (OK.ldBox S81 0 136 3 0 (.int .i64 q) (by kernel_rfl) rfl (by kernel_rfl)) ?_
                      refine J.run 1 K8_131 [(137, .pointer (some ⟨b1, 0, none⟩)), (136, .int .i64 q), (134, .bool true), (129, .bool false), (10, .pointer (some ⟨b3, 0, none⟩)), (7, .int .i64 (now + ((l.getD (i).toNat (⟨0, 0, 0⟩ : Act)).gAfter))), (37, .int .i64 i), (36, .int .i64 (len : Int)), (35, .slice pa len cap), (5, .pointer (some ⟨b1, 0, none⟩))] w57 (by kernel_rfl) ?_
                      refine J.ok (OK.ldBox S81 2 138 3 0 (.int .i64 q) (by kernel_rfl) rfl (by kernel_rfl)) ?_
                      refine J.run 1 K8_132 [(139, .bool (q != q)), (134, .bool true), (129, .bool false), (10, .pointer (some ⟨b3, 0, none⟩)), (7, .int .i64 (now + ((l.getD (i).toNat (⟨0, 0, 0⟩ : Act)).gAfter))), (37, .int .i64 i), (36, .int .i64 (len : Int)), (35, .slice pa len cap), (5, .pointer (some ⟨b1, 0, none⟩))] w57 (by kernel_rfl) ?_
                      refine J.head (.bool false) (congrArg Value.bool (by simp)) ?_
                      refine J.run 6 K8_133 [(10, .pointer (some ⟨b3, 0, none⟩)), (7, .int .i64 (now + ((l.getD (i).toNat (⟨0, 0, 0⟩ : Act)).gAfter))), (37, .int .i64 i), (36, .int .i64 (len : Int)), (35, .slice pa len cap), (5, .pointer (some ⟨b1, 0, none⟩))] w57 (by kernel_rfl) ?_
                      refine J.ok (OK.ldBox S81 0 142 31 0 (.agg #[.int .i64 q, .int .i64 0, .int .i64 (endE e false), .bool false, .bool ((endE e false) == 7)]) (by kernel_rfl) rfl (by kernel_rfl)) ?_
                      refine J.stBox S81 2 31 0 (.agg #[.int .i64 q, .int .i64 0, .int .i64 (endE e false), .bool false, .bool ((endE e false) == 7)]) [.int .i64 q, .int .i64 0, .int .i64 (endE e false), .bool false, .bool ((endE e false) == 7)] [box b3 [.int .i64 q, .int .i64 0, .int .i64 (endE e false), .bool false, .bool ((endE e false) == 7)] 31, box b2 [.int .u8 ((l.getD (i).toNat (⟨0, 0, 0⟩ : Act)).gKind), .int .u16 ((l.getD (i).toNat (⟨0, 0, 0⟩ : Act)).gAfter), .int .u16 ((l.getD (i).toNat (⟨0, 0, 0⟩ : Act)).gAnswer)] 50, box b1 [.int .i64 q, .int .i64 0, .int .i64 (endE e false), .bool false, .bool ((endE e false) == 7)] 31] (by kernel_rfl) rfl (by kernel_rfl) (by kernel_rfl) rfl ?_
                      intro w58 S82
                      refine J.run 4 K8_134 [(143, .int .i64 (IntKind.wrap .i64 (i + 1))), (7, .int .i64 (now + ((l.getD (i).toNat (⟨0, 0, 0⟩ : Act)).gAfter))), (36, .int .i64 (len : Int)), (35, .slice pa len cap), (5, .pointer (some ⟨b1, 0, none⟩))] w58 (by kernel_rfl) ?_
                      refine J.head (.int .i64 (i + 1)) (congrArg (Value.int .i64) (IntWalk.i64_in _ (by omega))) ?_
                      refine J.run 3 K8_9 [(37, .int .i64 (i + 1)), (7, .int .i64 (now + ((l.getD (i).toNat (⟨0, 0, 0⟩ : Act)).gAfter))), (36, .int .i64 (len : Int)), (35, .slice pa len cap), (5, .pointer (some ⟨b1, 0, none⟩))] w58 (by kernel_rfl) ?_
                      have S83 : Sep w [box b3 [.int .i64 q, .int .i64 0, .int .i64 (endE e false), .bool false, .bool ((endE e false) == 7)] 31, box b1 [.int .i64 q, .int .i64 0, .int .i64 (endE e false), .bool false, .bool ((endE e false) == 7)] 31] w58 := S82.erase 1
                      clear S82
                      have S84 : Sep w [box b1 [.int .i64 q, .int .i64 0, .int .i64 (endE e false), .bool false, .bool ((endE e false) == 7)] 31] w58 := S83.erase 0
                      clear S83
                      refine J.run 0 K8_9 [(37, .int .i64 (i + 1)), (36, .int .i64 (len : Int)), (35, .slice pa len cap), (7, .int .i64 (now + ((l.getD (i).toNat (⟨0, 0, 0⟩ : Act)).gAfter))), (5, .pointer (some ⟨b1, 0, none⟩))] w58 (by kernel_rfl) ?_
                      exact ih1 _ (show ((len : Int) - (i + 1)).toNat < m from by omega) q 0 (endE e false) false ((endE e false) == 7) (now + ((l.getD (i).toNat (⟨0, 0, 0⟩ : Act)).gAfter)) (i + 1) w58 (by omega) (by omega) (by omega) (by omega) (fk61) S84 rfl
                    · skip
                      refine J.callF 105 19 #[.agg #[.int .i64 q, .int .i64 a, .int .i64 e, .bool o, .bool f], .int .i64 (now + ((l.getD (i).toNat (⟨0, 0, 0⟩ : Act)).gAfter))] hb19 (by kernel_rfl) (tick_any q a e o f (now + ((l.getD (i).toNat (⟨0, 0, 0⟩ : Act)).gAfter)) _) ?_
                      rintro _ w59 ⟨rfl, T24⟩
                      have S85 : Sep w [box b3 [.int .i64 q, .int .i64 a, .int .i64 e, .bool o, .bool f] 31, box b2 [.int .u8 ((l.getD (i).toNat (⟨0, 0, 0⟩ : Act)).gKind), .int .u16 ((l.getD (i).toNat (⟨0, 0, 0⟩ : Act)).gAfter), .int .u16 ((l.getD (i).toNat (⟨0, 0, 0⟩ : Act)).gAnswer)] 50, box b1 [.int .i64 q, .int .i64 a, .int .i64 e, .bool o, .bool f] 31] w59 := S11.trans T24
                      clear T24 S11
                      refine J.head (.tuple #[.agg #[.int .i64 q, .int .i64 a, .int .i64 e, .bool true, .bool f], .int .i64 0]) (by (try simp only [tickV, zeroQ, fk55, fk56, fk58, fk59]) <;> simp [tickV, zeroQ, fk55, fk56, fk58, fk59, fk57]) ?_
                      refine J.run 3 K8_135 [(107, .int .i64 0), (106, .agg #[.int .i64 q, .int .i64 a, .int .i64 e, .bool true, .bool f]), (10, .pointer (some ⟨b3, 0, none⟩)), (7, .int .i64 (now + ((l.getD (i).toNat (⟨0, 0, 0⟩ : Act)).gAfter))), (9, .pointer (some ⟨b2, 0, none⟩)), (37, .int .i64 i), (36, .int .i64 (len : Int)), (35, .slice pa len cap), (5, .pointer (some ⟨b1, 0, none⟩))] w59 (by kernel_rfl) ?_
                      refine J.stBox S85 0 31 0 (.agg #[.int .i64 q, .int .i64 a, .int .i64 e, .bool true, .bool f]) [.int .i64 q, .int .i64 a, .int .i64 e, .bool true, .bool f] [box b3 [.int .i64 q, .int .i64 a, .int .i64 e, .bool true, .bool f] 31, box b2 [.int .u8 ((l.getD (i).toNat (⟨0, 0, 0⟩ : Act)).gKind), .int .u16 ((l.getD (i).toNat (⟨0, 0, 0⟩ : Act)).gAfter), .int .u16 ((l.getD (i).toNat (⟨0, 0, 0⟩ : Act)).gAnswer)] 50, box b1 [.int .i64 q, .int .i64 a, .int .i64 e, .bool o, .bool f] 31] (by kernel_rfl) rfl (by kernel_rfl) (by kernel_rfl) rfl ?_
                      intro w60 S86
                      refine J.run 14 K8_136 [(10, .pointer (some ⟨b3, 0, none⟩)), (7, .int .i64 (now + ((l.getD (i).toNat (⟨0, 0, 0⟩ : Act)).gAfter))), (9, .pointer (some ⟨b2, 0, none⟩)), (37, .int .i64 i), (36, .int .i64 (len : Int)), (35, .slice pa len cap), (5, .pointer (some ⟨b1, 0, none⟩))] w60 (by kernel_rfl) ?_
                      refine J.ok (OK.ldBox S86 0 117 31 0 (.agg #[.int .i64 q, .int .i64 a, .int .i64 e, .bool true, .bool f]) (by kernel_rfl) rfl (by kernel_rfl)) ?_
                      refine J.callF 118 23 #[.agg #[.int .i64 q, .int .i64 a, .int .i64 e, .bool true, .bool f]] hb23 (by kernel_rfl) (valid_any q a e true f _) ?_
                      rintro _ w61 ⟨rfl, T25⟩
                      have S87 : Sep w [box b3 [.int .i64 q, .int .i64 a, .int .i64 e, .bool true, .bool f] 31, box b2 [.int .u8 ((l.getD (i).toNat (⟨0, 0, 0⟩ : Act)).gKind), .int .u16 ((l.getD (i).toNat (⟨0, 0, 0⟩ : Act)).gAfter), .int .u16 ((l.getD (i).toNat (⟨0, 0, 0⟩ : Act)).gAnswer)] 50, box b1 [.int .i64 q, .int .i64 a, .int .i64 e, .bool o, .bool f] 31] w61 := S86.trans T25
                      clear T25 S86
                      refine J.run 2 K8_137 [(120, .bool (!(validB q a e true f))), (10, .pointer (some ⟨b3, 0, none⟩)), (7, .int .i64 (now + ((l.getD (i).toNat (⟨0, 0, 0⟩ : Act)).gAfter))), (9, .pointer (some ⟨b2, 0, none⟩)), (37, .int .i64 i), (36, .int .i64 (len : Int)), (35, .slice pa len cap), (5, .pointer (some ⟨b1, 0, none⟩))] w61 (by kernel_rfl) ?_
                      have fk66 : (validB q a e true f) = true := by have h_ := hv; rw [fk57] at h_; exact h_
                      refine J.head (.bool false) (congrArg Value.bool (by rw [fk66]; rfl)) ?_
                      refine J.run 1 K8_138 [(121, .pointer (some ⟨b1, 4, none⟩)), (120, .bool false), (10, .pointer (some ⟨b3, 0, none⟩)), (7, .int .i64 (now + ((l.getD (i).toNat (⟨0, 0, 0⟩ : Act)).gAfter))), (9, .pointer (some ⟨b2, 0, none⟩)), (37, .int .i64 i), (36, .int .i64 (len : Int)), (35, .slice pa len cap), (5, .pointer (some ⟨b1, 0, none⟩))] w61 (by kernel_rfl) ?_
                      refine J.ok (OK.ldBox S87 2 122 4 4 (.bool f) (by kernel_rfl) rfl (by kernel_rfl)) ?_
                      refine J.run 1 K8_139 [(123, .bool f), (120, .bool false), (10, .pointer (some ⟨b3, 0, none⟩)), (7, .int .i64 (now + ((l.getD (i).toNat (⟨0, 0, 0⟩ : Act)).gAfter))), (9, .pointer (some ⟨b2, 0, none⟩)), (37, .int .i64 i), (36, .int .i64 (len : Int)), (35, .slice pa len cap), (5, .pointer (some ⟨b1, 0, none⟩))] w61 (by kernel_rfl) ?_
                      have fk68 : f = false := valid_open hv fk57
                      refine J.head (.bool false) (congrArg Value.bool fk68) ?_
                      refine J.run 7 K8_140 [(130, .pointer (some ⟨b2, 0, none⟩)), (129, .bool false), (10, .pointer (some ⟨b3, 0, none⟩)), (7, .int .i64 (now + ((l.getD (i).toNat (⟨0, 0, 0⟩ : Act)).gAfter))), (37, .int .i64 i), (36, .int .i64 (len : Int)), (35, .slice pa len cap), (5, .pointer (some ⟨b1, 0, none⟩))] w61 (by kernel_rfl) ?_
                      refine J.ok (OK.ldBox S87 1 131 5 0 (.int .u8 ((l.getD (i).toNat (⟨0, 0, 0⟩ : Act)).gKind)) (by kernel_rfl) rfl (by kernel_rfl)) ?_
                      refine J.run 1 K8_141 [(132, .int .u8 (Int.tmod ((l.getD (i).toNat (⟨0, 0, 0⟩ : Act)).gKind) 4)), (129, .bool false), (10, .pointer (some ⟨b3, 0, none⟩)), (7, .int .i64 (now + ((l.getD (i).toNat (⟨0, 0, 0⟩ : Act)).gAfter))), (37, .int .i64 i), (36, .int .i64 (len : Int)), (35, .slice pa len cap), (5, .pointer (some ⟨b1, 0, none⟩))] w61 (by kernel_rfl) ?_
                      refine J.head (.int .u8 (((l.getD (i).toNat (⟨0, 0, 0⟩ : Act)).gKind) % 4)) (congrArg (Value.int .u8) (IntWalk.rem_in _ _ (by omega))) ?_
                      refine J.run 2 K8_142 [(134, .bool ((((l.getD (i).toNat (⟨0, 0, 0⟩ : Act)).gKind) % 4) != 0)), (129, .bool false), (10, .pointer (some ⟨b3, 0, none⟩)), (7, .int .i64 (now + ((l.getD (i).toNat (⟨0, 0, 0⟩ : Act)).gAfter))), (37, .int .i64 i), (36, .int .i64 (len : Int)), (35, .slice pa len cap), (5, .pointer (some ⟨b1, 0, none⟩))] w61 (by kernel_rfl) ?_
                      refine J.head (.bool true) (congrArg Value.bool (bne_iff_ne.2 fk5)) ?_
                      refine J.run 1 K8_143 [(135, .pointer (some ⟨b3, 0, none⟩)), (134, .bool true), (129, .bool false), (10, .pointer (some ⟨b3, 0, none⟩)), (7, .int .i64 (now + ((l.getD (i).toNat (⟨0, 0, 0⟩ : Act)).gAfter))), (37, .int .i64 i), (36, .int .i64 (len : Int)), (35, .slice pa len cap), (5, .pointer (some ⟨b1, 0, none⟩))] w61 (by kernel_rfl) ?_
                      refine J.ok (OK.ldBox S87 0 136 3 0 (.int .i64 q) (by kernel_rfl) rfl (by kernel_rfl)) ?_
                      refine J.run 1 K8_144 [(137, .pointer (some ⟨b1, 0, none⟩)), (136, .int .i64 q), (134, .bool true), (129, .bool false), (10, .pointer (some ⟨b3, 0, none⟩)), (7, .int .i64 (now + ((l.getD (i).toNat (⟨0, 0, 0⟩ : Act)).gAfter))), (37, .int .i64 i), (36, .int .i64 (len : Int)), (35, .slice pa len cap), (5, .pointer (some ⟨b1, 0, none⟩))] w61 (by kernel_rfl) ?_
                      refine J.ok (OK.ldBox S87 2 138 3 0 (.int .i64 q) (by kernel_rfl) rfl (by kernel_rfl)) ?_
                      refine J.run 1 K8_145 [(139, .bool (q != q)), (134, .bool true), (129, .bool false), (10, .pointer (some ⟨b3, 0, none⟩)), (7, .int .i64 (now + ((l.getD (i).toNat (⟨0, 0, 0⟩ : Act)).gAfter))), (37, .int .i64 i), (36, .int .i64 (len : Int)), (35, .slice pa len cap), (5, .pointer (some ⟨b1, 0, none⟩))] w61 (by kernel_rfl) ?_
                      refine J.head (.bool false) (congrArg Value.bool (by simp)) ?_
                      refine J.run 6 K8_146 [(10, .pointer (some ⟨b3, 0, none⟩)), (7, .int .i64 (now + ((l.getD (i).toNat (⟨0, 0, 0⟩ : Act)).gAfter))), (37, .int .i64 i), (36, .int .i64 (len : Int)), (35, .slice pa len cap), (5, .pointer (some ⟨b1, 0, none⟩))] w61 (by kernel_rfl) ?_
                      refine J.ok (OK.ldBox S87 0 142 31 0 (.agg #[.int .i64 q, .int .i64 a, .int .i64 e, .bool true, .bool f]) (by kernel_rfl) rfl (by kernel_rfl)) ?_
                      refine J.stBox S87 2 31 0 (.agg #[.int .i64 q, .int .i64 a, .int .i64 e, .bool true, .bool f]) [.int .i64 q, .int .i64 a, .int .i64 e, .bool true, .bool f] [box b3 [.int .i64 q, .int .i64 a, .int .i64 e, .bool true, .bool f] 31, box b2 [.int .u8 ((l.getD (i).toNat (⟨0, 0, 0⟩ : Act)).gKind), .int .u16 ((l.getD (i).toNat (⟨0, 0, 0⟩ : Act)).gAfter), .int .u16 ((l.getD (i).toNat (⟨0, 0, 0⟩ : Act)).gAnswer)] 50, box b1 [.int .i64 q, .int .i64 a, .int .i64 e, .bool true, .bool f] 31] (by kernel_rfl) rfl (by kernel_rfl) (by kernel_rfl) rfl ?_
                      intro w62 S88
                      refine J.run 4 K8_147 [(143, .int .i64 (IntKind.wrap .i64 (i + 1))), (7, .int .i64 (now + ((l.getD (i).toNat (⟨0, 0, 0⟩ : Act)).gAfter))), (36, .int .i64 (len : Int)), (35, .slice pa len cap), (5, .pointer (some ⟨b1, 0, none⟩))] w62 (by kernel_rfl) ?_
                      refine J.head (.int .i64 (i + 1)) (congrArg (Value.int .i64) (IntWalk.i64_in _ (by omega))) ?_
                      refine J.run 3 K8_9 [(37, .int .i64 (i + 1)), (7, .int .i64 (now + ((l.getD (i).toNat (⟨0, 0, 0⟩ : Act)).gAfter))), (36, .int .i64 (len : Int)), (35, .slice pa len cap), (5, .pointer (some ⟨b1, 0, none⟩))] w62 (by kernel_rfl) ?_
                      have S89 : Sep w [box b3 [.int .i64 q, .int .i64 a, .int .i64 e, .bool true, .bool f] 31, box b1 [.int .i64 q, .int .i64 a, .int .i64 e, .bool true, .bool f] 31] w62 := S88.erase 1
                      clear S88
                      have S90 : Sep w [box b1 [.int .i64 q, .int .i64 a, .int .i64 e, .bool true, .bool f] 31] w62 := S89.erase 0
                      clear S89
                      refine J.run 0 K8_9 [(37, .int .i64 (i + 1)), (36, .int .i64 (len : Int)), (35, .slice pa len cap), (7, .int .i64 (now + ((l.getD (i).toNat (⟨0, 0, 0⟩ : Act)).gAfter))), (5, .pointer (some ⟨b1, 0, none⟩))] w62 (by kernel_rfl) ?_
                      exact ih1 _ (show ((len : Int) - (i + 1)).toNat < m from by omega) q a e true f (now + ((l.getD (i).toNat (⟨0, 0, 0⟩ : Act)).gAfter)) (i + 1) w62 (by omega) (by omega) (by omega) (by omega) (fk66) S90 rfl
                  · skip
                    refine J.callF 105 19 #[.agg #[.int .i64 q, .int .i64 a, .int .i64 e, .bool o, .bool f], .int .i64 (now + ((l.getD (i).toNat (⟨0, 0, 0⟩ : Act)).gAfter))] hb19 (by kernel_rfl) (tick_any q a e o f (now + ((l.getD (i).toNat (⟨0, 0, 0⟩ : Act)).gAfter)) _) ?_
                    rintro _ w63 ⟨rfl, T26⟩
                    have S91 : Sep w [box b3 [.int .i64 q, .int .i64 a, .int .i64 e, .bool o, .bool f] 31, box b2 [.int .u8 ((l.getD (i).toNat (⟨0, 0, 0⟩ : Act)).gKind), .int .u16 ((l.getD (i).toNat (⟨0, 0, 0⟩ : Act)).gAfter), .int .u16 ((l.getD (i).toNat (⟨0, 0, 0⟩ : Act)).gAnswer)] 50, box b1 [.int .i64 q, .int .i64 a, .int .i64 e, .bool o, .bool f] 31] w63 := S11.trans T26
                    clear T26 S11
                    refine J.head (.tuple #[.agg #[.int .i64 q, .int .i64 a, .int .i64 e, .bool false, .bool f], .int .i64 0]) (by (try simp only [tickV, zeroQ, fk55, fk56]) <;> simp [tickV, zeroQ, fk55, fk56, fk57]) ?_
                    refine J.run 3 K8_148 [(107, .int .i64 0), (106, .agg #[.int .i64 q, .int .i64 a, .int .i64 e, .bool false, .bool f]), (10, .pointer (some ⟨b3, 0, none⟩)), (7, .int .i64 (now + ((l.getD (i).toNat (⟨0, 0, 0⟩ : Act)).gAfter))), (9, .pointer (some ⟨b2, 0, none⟩)), (37, .int .i64 i), (36, .int .i64 (len : Int)), (35, .slice pa len cap), (5, .pointer (some ⟨b1, 0, none⟩))] w63 (by kernel_rfl) ?_
                    refine J.stBox S91 0 31 0 (.agg #[.int .i64 q, .int .i64 a, .int .i64 e, .bool false, .bool f]) [.int .i64 q, .int .i64 a, .int .i64 e, .bool false, .bool f] [box b3 [.int .i64 q, .int .i64 a, .int .i64 e, .bool false, .bool f] 31, box b2 [.int .u8 ((l.getD (i).toNat (⟨0, 0, 0⟩ : Act)).gKind), .int .u16 ((l.getD (i).toNat (⟨0, 0, 0⟩ : Act)).gAfter), .int .u16 ((l.getD (i).toNat (⟨0, 0, 0⟩ : Act)).gAnswer)] 50, box b1 [.int .i64 q, .int .i64 a, .int .i64 e, .bool o, .bool f] 31] (by kernel_rfl) rfl (by kernel_rfl) (by kernel_rfl) rfl ?_
                    intro w64 S92
                    refine J.run 14 K8_149 [(10, .pointer (some ⟨b3, 0, none⟩)), (7, .int .i64 (now + ((l.getD (i).toNat (⟨0, 0, 0⟩ : Act)).gAfter))), (9, .pointer (some ⟨b2, 0, none⟩)), (37, .int .i64 i), (36, .int .i64 (len : Int)), (35, .slice pa len cap), (5, .pointer (some ⟨b1, 0, none⟩))] w64 (by kernel_rfl) ?_
                    refine J.ok (OK.ldBox S92 0 117 31 0 (.agg #[.int .i64 q, .int .i64 a, .int .i64 e, .bool false, .bool f]) (by kernel_rfl) rfl (by kernel_rfl)) ?_
                    refine J.callF 118 23 #[.agg #[.int .i64 q, .int .i64 a, .int .i64 e, .bool false, .bool f]] hb23 (by kernel_rfl) (valid_any q a e false f _) ?_
                    rintro _ w65 ⟨rfl, T27⟩
                    have S93 : Sep w [box b3 [.int .i64 q, .int .i64 a, .int .i64 e, .bool false, .bool f] 31, box b2 [.int .u8 ((l.getD (i).toNat (⟨0, 0, 0⟩ : Act)).gKind), .int .u16 ((l.getD (i).toNat (⟨0, 0, 0⟩ : Act)).gAfter), .int .u16 ((l.getD (i).toNat (⟨0, 0, 0⟩ : Act)).gAnswer)] 50, box b1 [.int .i64 q, .int .i64 a, .int .i64 e, .bool o, .bool f] 31] w65 := S92.trans T27
                    clear T27 S92
                    refine J.run 2 K8_150 [(120, .bool (!(validB q a e false f))), (10, .pointer (some ⟨b3, 0, none⟩)), (7, .int .i64 (now + ((l.getD (i).toNat (⟨0, 0, 0⟩ : Act)).gAfter))), (9, .pointer (some ⟨b2, 0, none⟩)), (37, .int .i64 i), (36, .int .i64 (len : Int)), (35, .slice pa len cap), (5, .pointer (some ⟨b1, 0, none⟩))] w65 (by kernel_rfl) ?_
                    have fk71 : (validB q a e false f) = true := by have h_ := hv; rw [fk57] at h_; exact h_
                    refine J.head (.bool false) (congrArg Value.bool (by rw [fk71]; rfl)) ?_
                    refine J.run 1 K8_151 [(121, .pointer (some ⟨b1, 4, none⟩)), (120, .bool false), (10, .pointer (some ⟨b3, 0, none⟩)), (7, .int .i64 (now + ((l.getD (i).toNat (⟨0, 0, 0⟩ : Act)).gAfter))), (9, .pointer (some ⟨b2, 0, none⟩)), (37, .int .i64 i), (36, .int .i64 (len : Int)), (35, .slice pa len cap), (5, .pointer (some ⟨b1, 0, none⟩))] w65 (by kernel_rfl) ?_
                    refine J.ok (OK.ldBox S93 2 122 4 4 (.bool f) (by kernel_rfl) rfl (by kernel_rfl)) ?_
                    refine J.run 1 K8_152 [(123, .bool f), (120, .bool false), (10, .pointer (some ⟨b3, 0, none⟩)), (7, .int .i64 (now + ((l.getD (i).toNat (⟨0, 0, 0⟩ : Act)).gAfter))), (9, .pointer (some ⟨b2, 0, none⟩)), (37, .int .i64 i), (36, .int .i64 (len : Int)), (35, .slice pa len cap), (5, .pointer (some ⟨b1, 0, none⟩))] w65 (by kernel_rfl) ?_
                    rcases Bool.eq_false_or_eq_true f with fk72 | fk72
                    · skip
                      refine J.head (.bool true) (congrArg Value.bool fk72) ?_
                      refine J.run 1 K8_153 [(124, .pointer (some ⟨b3, 4, none⟩)), (123, .bool true), (120, .bool false), (10, .pointer (some ⟨b3, 0, none⟩)), (7, .int .i64 (now + ((l.getD (i).toNat (⟨0, 0, 0⟩ : Act)).gAfter))), (9, .pointer (some ⟨b2, 0, none⟩)), (37, .int .i64 i), (36, .int .i64 (len : Int)), (35, .slice pa len cap), (5, .pointer (some ⟨b1, 0, none⟩))] w65 (by kernel_rfl) ?_
                      refine J.ok (OK.ldBox S93 0 125 4 4 (.bool f) (by kernel_rfl) rfl (by kernel_rfl)) ?_
                      refine J.run 4 K8_154 [(129, .bool (!f)), (10, .pointer (some ⟨b3, 0, none⟩)), (7, .int .i64 (now + ((l.getD (i).toNat (⟨0, 0, 0⟩ : Act)).gAfter))), (9, .pointer (some ⟨b2, 0, none⟩)), (37, .int .i64 i), (36, .int .i64 (len : Int)), (35, .slice pa len cap), (5, .pointer (some ⟨b1, 0, none⟩))] w65 (by kernel_rfl) ?_
                      refine J.head (.bool false) (congrArg Value.bool (by rw [fk72]; rfl)) ?_
                      refine J.run 1 K8_155 [(130, .pointer (some ⟨b2, 0, none⟩)), (129, .bool false), (10, .pointer (some ⟨b3, 0, none⟩)), (7, .int .i64 (now + ((l.getD (i).toNat (⟨0, 0, 0⟩ : Act)).gAfter))), (37, .int .i64 i), (36, .int .i64 (len : Int)), (35, .slice pa len cap), (5, .pointer (some ⟨b1, 0, none⟩))] w65 (by kernel_rfl) ?_
                      refine J.ok (OK.ldBox S93 1 131 5 0 (.int .u8 ((l.getD (i).toNat (⟨0, 0, 0⟩ : Act)).gKind)) (by kernel_rfl) rfl (by kernel_rfl)) ?_
                      refine J.run 1 K8_156 [(132, .int .u8 (Int.tmod ((l.getD (i).toNat (⟨0, 0, 0⟩ : Act)).gKind) 4)), (129, .bool false), (10, .pointer (some ⟨b3, 0, none⟩)), (7, .int .i64 (now + ((l.getD (i).toNat (⟨0, 0, 0⟩ : Act)).gAfter))), (37, .int .i64 i), (36, .int .i64 (len : Int)), (35, .slice pa len cap), (5, .pointer (some ⟨b1, 0, none⟩))] w65 (by kernel_rfl) ?_
                      refine J.head (.int .u8 (((l.getD (i).toNat (⟨0, 0, 0⟩ : Act)).gKind) % 4)) (congrArg (Value.int .u8) (IntWalk.rem_in _ _ (by omega))) ?_
                      refine J.run 2 K8_157 [(134, .bool ((((l.getD (i).toNat (⟨0, 0, 0⟩ : Act)).gKind) % 4) != 0)), (129, .bool false), (10, .pointer (some ⟨b3, 0, none⟩)), (7, .int .i64 (now + ((l.getD (i).toNat (⟨0, 0, 0⟩ : Act)).gAfter))), (37, .int .i64 i), (36, .int .i64 (len : Int)), (35, .slice pa len cap), (5, .pointer (some ⟨b1, 0, none⟩))] w65 (by kernel_rfl) ?_
                      refine J.head (.bool true) (congrArg Value.bool (bne_iff_ne.2 fk5)) ?_
                      refine J.run 1 K8_158 [(135, .pointer (some ⟨b3, 0, none⟩)), (134, .bool true), (129, .bool false), (10, .pointer (some ⟨b3, 0, none⟩)), (7, .int .i64 (now + ((l.getD (i).toNat (⟨0, 0, 0⟩ : Act)).gAfter))), (37, .int .i64 i), (36, .int .i64 (len : Int)), (35, .slice pa len cap), (5, .pointer (some ⟨b1, 0, none⟩))] w65 (by kernel_rfl) ?_
                      refine J.ok (OK.ldBox S93 0 136 3 0 (.int .i64 q) (by kernel_rfl) rfl (by kernel_rfl)) ?_
                      refine J.run 1 K8_159 [(137, .pointer (some ⟨b1, 0, none⟩)), (136, .int .i64 q), (134, .bool true), (129, .bool false), (10, .pointer (some ⟨b3, 0, none⟩)), (7, .int .i64 (now + ((l.getD (i).toNat (⟨0, 0, 0⟩ : Act)).gAfter))), (37, .int .i64 i), (36, .int .i64 (len : Int)), (35, .slice pa len cap), (5, .pointer (some ⟨b1, 0, none⟩))] w65 (by kernel_rfl) ?_
                      refine J.ok (OK.ldBox S93 2 138 3 0 (.int .i64 q) (by kernel_rfl) rfl (by kernel_rfl)) ?_
                      refine J.run 1 K8_160 [(139, .bool (q != q)), (134, .bool true), (129, .bool false), (10, .pointer (some ⟨b3, 0, none⟩)), (7, .int .i64 (now + ((l.getD (i).toNat (⟨0, 0, 0⟩ : Act)).gAfter))), (37, .int .i64 i), (36, .int .i64 (len : Int)), (35, .slice pa len cap), (5, .pointer (some ⟨b1, 0, none⟩))] w65 (by kernel_rfl) ?_
                      refine J.head (.bool false) (congrArg Value.bool (by simp)) ?_
                      refine J.run 6 K8_161 [(10, .pointer (some ⟨b3, 0, none⟩)), (7, .int .i64 (now + ((l.getD (i).toNat (⟨0, 0, 0⟩ : Act)).gAfter))), (37, .int .i64 i), (36, .int .i64 (len : Int)), (35, .slice pa len cap), (5, .pointer (some ⟨b1, 0, none⟩))] w65 (by kernel_rfl) ?_
                      refine J.ok (OK.ldBox S93 0 142 31 0 (.agg #[.int .i64 q, .int .i64 a, .int .i64 e, .bool false, .bool f]) (by kernel_rfl) rfl (by kernel_rfl)) ?_
                      refine J.stBox S93 2 31 0 (.agg #[.int .i64 q, .int .i64 a, .int .i64 e, .bool false, .bool f]) [.int .i64 q, .int .i64 a, .int .i64 e, .bool false, .bool f] [box b3 [.int .i64 q, .int .i64 a, .int .i64 e, .bool false, .bool f] 31, box b2 [.int .u8 ((l.getD (i).toNat (⟨0, 0, 0⟩ : Act)).gKind), .int .u16 ((l.getD (i).toNat (⟨0, 0, 0⟩ : Act)).gAfter), .int .u16 ((l.getD (i).toNat (⟨0, 0, 0⟩ : Act)).gAnswer)] 50, box b1 [.int .i64 q, .int .i64 a, .int .i64 e, .bool false, .bool f] 31] (by kernel_rfl) rfl (by kernel_rfl) (by kernel_rfl) rfl ?_
                      intro w66 S94
                      refine J.run 4 K8_162 [(143, .int .i64 (IntKind.wrap .i64 (i + 1))), (7, .int .i64 (now + ((l.getD (i).toNat (⟨0, 0, 0⟩ : Act)).gAfter))), (36, .int .i64 (len : Int)), (35, .slice pa len cap), (5, .pointer (some ⟨b1, 0, none⟩))] w66 (by kernel_rfl) ?_
                      refine J.head (.int .i64 (i + 1)) (congrArg (Value.int .i64) (IntWalk.i64_in _ (by omega))) ?_
                      refine J.run 3 K8_9 [(37, .int .i64 (i + 1)), (7, .int .i64 (now + ((l.getD (i).toNat (⟨0, 0, 0⟩ : Act)).gAfter))), (36, .int .i64 (len : Int)), (35, .slice pa len cap), (5, .pointer (some ⟨b1, 0, none⟩))] w66 (by kernel_rfl) ?_
                      have S95 : Sep w [box b3 [.int .i64 q, .int .i64 a, .int .i64 e, .bool false, .bool f] 31, box b1 [.int .i64 q, .int .i64 a, .int .i64 e, .bool false, .bool f] 31] w66 := S94.erase 1
                      clear S94
                      have S96 : Sep w [box b1 [.int .i64 q, .int .i64 a, .int .i64 e, .bool false, .bool f] 31] w66 := S95.erase 0
                      clear S95
                      refine J.run 0 K8_9 [(37, .int .i64 (i + 1)), (36, .int .i64 (len : Int)), (35, .slice pa len cap), (7, .int .i64 (now + ((l.getD (i).toNat (⟨0, 0, 0⟩ : Act)).gAfter))), (5, .pointer (some ⟨b1, 0, none⟩))] w66 (by kernel_rfl) ?_
                      exact ih1 _ (show ((len : Int) - (i + 1)).toNat < m from by omega) q a e false f (now + ((l.getD (i).toNat (⟨0, 0, 0⟩ : Act)).gAfter)) (i + 1) w66 (by omega) (by omega) (by omega) (by omega) (fk71) S96 rfl
                    · skip
                      refine J.head (.bool false) (congrArg Value.bool fk72) ?_
                      refine J.run 7 K8_163 [(130, .pointer (some ⟨b2, 0, none⟩)), (129, .bool false), (10, .pointer (some ⟨b3, 0, none⟩)), (7, .int .i64 (now + ((l.getD (i).toNat (⟨0, 0, 0⟩ : Act)).gAfter))), (37, .int .i64 i), (36, .int .i64 (len : Int)), (35, .slice pa len cap), (5, .pointer (some ⟨b1, 0, none⟩))] w65 (by kernel_rfl) ?_
                      refine J.ok (OK.ldBox S93 1 131 5 0 (.int .u8 ((l.getD (i).toNat (⟨0, 0, 0⟩ : Act)).gKind)) (by kernel_rfl) rfl (by kernel_rfl)) ?_
                      refine J.run 1 K8_164 [(132, .int .u8 (Int.tmod ((l.getD (i).toNat (⟨0, 0, 0⟩ : Act)).gKind) 4)), (129, .bool false), (10, .pointer (some ⟨b3, 0, none⟩)), (7, .int .i64 (now + ((l.getD (i).toNat (⟨0, 0, 0⟩ : Act)).gAfter))), (37, .int .i64 i), (36, .int .i64 (len : Int)), (35, .slice pa len cap), (5, .pointer (some ⟨b1, 0, none⟩))] w65 (by kernel_rfl) ?_
                      refine J.head (.int .u8 (((l.getD (i).toNat (⟨0, 0, 0⟩ : Act)).gKind) % 4)) (congrArg (Value.int .u8) (IntWalk.rem_in _ _ (by omega))) ?_
                      refine J.run 2 K8_165 [(134, .bool ((((l.getD (i).toNat (⟨0, 0, 0⟩ : Act)).gKind) % 4) != 0)), (129, .bool false), (10, .pointer (some ⟨b3, 0, none⟩)), (7, .int .i64 (now + ((l.getD (i).toNat (⟨0, 0, 0⟩ : Act)).gAfter))), (37, .int .i64 i), (36, .int .i64 (len : Int)), (35, .slice pa len cap), (5, .pointer (some ⟨b1, 0, none⟩))] w65 (by kernel_rfl) ?_
                      refine J.head (.bool true) (congrArg Value.bool (bne_iff_ne.2 fk5)) ?_
                      refine J.run 1 K8_166 [(135, .pointer (some ⟨b3, 0, none⟩)), (134, .bool true), (129, .bool false), (10, .pointer (some ⟨b3, 0, none⟩)), (7, .int .i64 (now + ((l.getD (i).toNat (⟨0, 0, 0⟩ : Act)).gAfter))), (37, .int .i64 i), (36, .int .i64 (len : Int)), (35, .slice pa len cap), (5, .pointer (some ⟨b1, 0, none⟩))] w65 (by kernel_rfl) ?_
                      refine J.ok (OK.ldBox S93 0 136 3 0 (.int .i64 q) (by kernel_rfl) rfl (by kernel_rfl)) ?_
                      refine J.run 1 K8_167 [(137, .pointer (some ⟨b1, 0, none⟩)), (136, .int .i64 q), (134, .bool true), (129, .bool false), (10, .pointer (some ⟨b3, 0, none⟩)), (7, .int .i64 (now + ((l.getD (i).toNat (⟨0, 0, 0⟩ : Act)).gAfter))), (37, .int .i64 i), (36, .int .i64 (len : Int)), (35, .slice pa len cap), (5, .pointer (some ⟨b1, 0, none⟩))] w65 (by kernel_rfl) ?_
                      refine J.ok (OK.ldBox S93 2 138 3 0 (.int .i64 q) (by kernel_rfl) rfl (by kernel_rfl)) ?_
                      refine J.run 1 K8_168 [(139, .bool (q != q)), (134, .bool true), (129, .bool false), (10, .pointer (some ⟨b3, 0, none⟩)), (7, .int .i64 (now + ((l.getD (i).toNat (⟨0, 0, 0⟩ : Act)).gAfter))), (37, .int .i64 i), (36, .int .i64 (len : Int)), (35, .slice pa len cap), (5, .pointer (some ⟨b1, 0, none⟩))] w65 (by kernel_rfl) ?_
                      refine J.head (.bool false) (congrArg Value.bool (by simp)) ?_
                      refine J.run 6 K8_169 [(10, .pointer (some ⟨b3, 0, none⟩)), (7, .int .i64 (now + ((l.getD (i).toNat (⟨0, 0, 0⟩ : Act)).gAfter))), (37, .int .i64 i), (36, .int .i64 (len : Int)), (35, .slice pa len cap), (5, .pointer (some ⟨b1, 0, none⟩))] w65 (by kernel_rfl) ?_
                      refine J.ok (OK.ldBox S93 0 142 31 0 (.agg #[.int .i64 q, .int .i64 a, .int .i64 e, .bool false, .bool f]) (by kernel_rfl) rfl (by kernel_rfl)) ?_
                      refine J.stBox S93 2 31 0 (.agg #[.int .i64 q, .int .i64 a, .int .i64 e, .bool false, .bool f]) [.int .i64 q, .int .i64 a, .int .i64 e, .bool false, .bool f] [box b3 [.int .i64 q, .int .i64 a, .int .i64 e, .bool false, .bool f] 31, box b2 [.int .u8 ((l.getD (i).toNat (⟨0, 0, 0⟩ : Act)).gKind), .int .u16 ((l.getD (i).toNat (⟨0, 0, 0⟩ : Act)).gAfter), .int .u16 ((l.getD (i).toNat (⟨0, 0, 0⟩ : Act)).gAnswer)] 50, box b1 [.int .i64 q, .int .i64 a, .int .i64 e, .bool false, .bool f] 31] (by kernel_rfl) rfl (by kernel_rfl) (by kernel_rfl) rfl ?_
                      intro w67 S97
                      refine J.run 4 K8_170 [(143, .int .i64 (IntKind.wrap .i64 (i + 1))), (7, .int .i64 (now + ((l.getD (i).toNat (⟨0, 0, 0⟩ : Act)).gAfter))), (36, .int .i64 (len : Int)), (35, .slice pa len cap), (5, .pointer (some ⟨b1, 0, none⟩))] w67 (by kernel_rfl) ?_
                      refine J.head (.int .i64 (i + 1)) (congrArg (Value.int .i64) (IntWalk.i64_in _ (by omega))) ?_
                      refine J.run 3 K8_9 [(37, .int .i64 (i + 1)), (7, .int .i64 (now + ((l.getD (i).toNat (⟨0, 0, 0⟩ : Act)).gAfter))), (36, .int .i64 (len : Int)), (35, .slice pa len cap), (5, .pointer (some ⟨b1, 0, none⟩))] w67 (by kernel_rfl) ?_
                      have S98 : Sep w [box b3 [.int .i64 q, .int .i64 a, .int .i64 e, .bool false, .bool f] 31, box b1 [.int .i64 q, .int .i64 a, .int .i64 e, .bool false, .bool f] 31] w67 := S97.erase 1
                      clear S97
                      have S99 : Sep w [box b1 [.int .i64 q, .int .i64 a, .int .i64 e, .bool false, .bool f] 31] w67 := S98.erase 0
                      clear S98
                      refine J.run 0 K8_9 [(37, .int .i64 (i + 1)), (36, .int .i64 (len : Int)), (35, .slice pa len cap), (7, .int .i64 (now + ((l.getD (i).toNat (⟨0, 0, 0⟩ : Act)).gAfter))), (5, .pointer (some ⟨b1, 0, none⟩))] w67 (by kernel_rfl) ?_
                      exact ih1 _ (show ((len : Int) - (i + 1)).toNat < m from by omega) q a e false f (now + ((l.getD (i).toNat (⟨0, 0, 0⟩ : Act)).gAfter)) (i + 1) w67 (by omega) (by omega) (by omega) (by omega) (fk71) S99 rfl
                · skip
                  refine J.head (.bool false) (congrArg Value.bool (beq_eq_false_iff_ne.2 fk54)) ?_
                  refine J.run 14 K8_171 [(10, .pointer (some ⟨b3, 0, none⟩)), (7, .int .i64 (now + ((l.getD (i).toNat (⟨0, 0, 0⟩ : Act)).gAfter))), (9, .pointer (some ⟨b2, 0, none⟩)), (37, .int .i64 i), (36, .int .i64 (len : Int)), (35, .slice pa len cap), (5, .pointer (some ⟨b1, 0, none⟩))] w11 (by kernel_rfl) ?_
                  refine J.ok (OK.ldBox S11 0 117 31 0 (.agg #[.int .i64 q, .int .i64 a, .int .i64 e, .bool o, .bool f]) (by kernel_rfl) rfl (by kernel_rfl)) ?_
                  refine J.callF 118 23 #[.agg #[.int .i64 q, .int .i64 a, .int .i64 e, .bool o, .bool f]] hb23 (by kernel_rfl) (valid_any q a e o f _) ?_
                  rintro _ w68 ⟨rfl, T28⟩
                  have S100 : Sep w [box b3 [.int .i64 q, .int .i64 a, .int .i64 e, .bool o, .bool f] 31, box b2 [.int .u8 ((l.getD (i).toNat (⟨0, 0, 0⟩ : Act)).gKind), .int .u16 ((l.getD (i).toNat (⟨0, 0, 0⟩ : Act)).gAfter), .int .u16 ((l.getD (i).toNat (⟨0, 0, 0⟩ : Act)).gAnswer)] 50, box b1 [.int .i64 q, .int .i64 a, .int .i64 e, .bool o, .bool f] 31] w68 := S11.trans T28
                  clear T28 S11
                  refine J.run 2 K8_172 [(120, .bool (!(validB q a e o f))), (10, .pointer (some ⟨b3, 0, none⟩)), (7, .int .i64 (now + ((l.getD (i).toNat (⟨0, 0, 0⟩ : Act)).gAfter))), (9, .pointer (some ⟨b2, 0, none⟩)), (37, .int .i64 i), (36, .int .i64 (len : Int)), (35, .slice pa len cap), (5, .pointer (some ⟨b1, 0, none⟩))] w68 (by kernel_rfl) ?_
                  have fk77 : (validB q a e o f) = true := hv
                  refine J.head (.bool false) (congrArg Value.bool (by rw [fk77]; rfl)) ?_
                  refine J.run 1 K8_173 [(121, .pointer (some ⟨b1, 4, none⟩)), (120, .bool false), (10, .pointer (some ⟨b3, 0, none⟩)), (7, .int .i64 (now + ((l.getD (i).toNat (⟨0, 0, 0⟩ : Act)).gAfter))), (9, .pointer (some ⟨b2, 0, none⟩)), (37, .int .i64 i), (36, .int .i64 (len : Int)), (35, .slice pa len cap), (5, .pointer (some ⟨b1, 0, none⟩))] w68 (by kernel_rfl) ?_
                  refine J.ok (OK.ldBox S100 2 122 4 4 (.bool f) (by kernel_rfl) rfl (by kernel_rfl)) ?_
                  refine J.run 1 K8_174 [(123, .bool f), (120, .bool false), (10, .pointer (some ⟨b3, 0, none⟩)), (7, .int .i64 (now + ((l.getD (i).toNat (⟨0, 0, 0⟩ : Act)).gAfter))), (9, .pointer (some ⟨b2, 0, none⟩)), (37, .int .i64 i), (36, .int .i64 (len : Int)), (35, .slice pa len cap), (5, .pointer (some ⟨b1, 0, none⟩))] w68 (by kernel_rfl) ?_
                  rcases Bool.eq_false_or_eq_true f with fk78 | fk78
                  · skip
                    refine J.head (.bool true) (congrArg Value.bool fk78) ?_
                    refine J.run 1 K8_175 [(124, .pointer (some ⟨b3, 4, none⟩)), (123, .bool true), (120, .bool false), (10, .pointer (some ⟨b3, 0, none⟩)), (7, .int .i64 (now + ((l.getD (i).toNat (⟨0, 0, 0⟩ : Act)).gAfter))), (9, .pointer (some ⟨b2, 0, none⟩)), (37, .int .i64 i), (36, .int .i64 (len : Int)), (35, .slice pa len cap), (5, .pointer (some ⟨b1, 0, none⟩))] w68 (by kernel_rfl) ?_
                    refine J.ok (OK.ldBox S100 0 125 4 4 (.bool f) (by kernel_rfl) rfl (by kernel_rfl)) ?_
                    refine J.run 4 K8_176 [(129, .bool (!f)), (10, .pointer (some ⟨b3, 0, none⟩)), (7, .int .i64 (now + ((l.getD (i).toNat (⟨0, 0, 0⟩ : Act)).gAfter))), (9, .pointer (some ⟨b2, 0, none⟩)), (37, .int .i64 i), (36, .int .i64 (len : Int)), (35, .slice pa len cap), (5, .pointer (some ⟨b1, 0, none⟩))] w68 (by kernel_rfl) ?_
                    refine J.head (.bool false) (congrArg Value.bool (by rw [fk78]; rfl)) ?_
                    refine J.run 1 K8_177 [(130, .pointer (some ⟨b2, 0, none⟩)), (129, .bool false), (10, .pointer (some ⟨b3, 0, none⟩)), (7, .int .i64 (now + ((l.getD (i).toNat (⟨0, 0, 0⟩ : Act)).gAfter))), (37, .int .i64 i), (36, .int .i64 (len : Int)), (35, .slice pa len cap), (5, .pointer (some ⟨b1, 0, none⟩))] w68 (by kernel_rfl) ?_
                    refine J.ok (OK.ldBox S100 1 131 5 0 (.int .u8 ((l.getD (i).toNat (⟨0, 0, 0⟩ : Act)).gKind)) (by kernel_rfl) rfl (by kernel_rfl)) ?_
                    refine J.run 1 K8_178 [(132, .int .u8 (Int.tmod ((l.getD (i).toNat (⟨0, 0, 0⟩ : Act)).gKind) 4)), (129, .bool false), (10, .pointer (some ⟨b3, 0, none⟩)), (7, .int .i64 (now + ((l.getD (i).toNat (⟨0, 0, 0⟩ : Act)).gAfter))), (37, .int .i64 i), (36, .int .i64 (len : Int)), (35, .slice pa len cap), (5, .pointer (some ⟨b1, 0, none⟩))] w68 (by kernel_rfl) ?_
                    refine J.head (.int .u8 (((l.getD (i).toNat (⟨0, 0, 0⟩ : Act)).gKind) % 4)) (congrArg (Value.int .u8) (IntWalk.rem_in _ _ (by omega))) ?_
                    refine J.run 2 K8_179 [(134, .bool ((((l.getD (i).toNat (⟨0, 0, 0⟩ : Act)).gKind) % 4) != 0)), (129, .bool false), (10, .pointer (some ⟨b3, 0, none⟩)), (7, .int .i64 (now + ((l.getD (i).toNat (⟨0, 0, 0⟩ : Act)).gAfter))), (37, .int .i64 i), (36, .int .i64 (len : Int)), (35, .slice pa len cap), (5, .pointer (some ⟨b1, 0, none⟩))] w68 (by kernel_rfl) ?_
                    refine J.head (.bool true) (congrArg Value.bool (bne_iff_ne.2 fk5)) ?_
                    refine J.run 1 K8_180 [(135, .pointer (some ⟨b3, 0, none⟩)), (134, .bool true), (129, .bool false), (10, .pointer (some ⟨b3, 0, none⟩)), (7, .int .i64 (now + ((l.getD (i).toNat (⟨0, 0, 0⟩ : Act)).gAfter))), (37, .int .i64 i), (36, .int .i64 (len : Int)), (35, .slice pa len cap), (5, .pointer (some ⟨b1, 0, none⟩))] w68 (by kernel_rfl) ?_
                    refine J.ok (OK.ldBox S100 0 136 3 0 (.int .i64 q) (by kernel_rfl) rfl (by kernel_rfl)) ?_
                    refine J.run 1 K8_181 [(137, .pointer (some ⟨b1, 0, none⟩)), (136, .int .i64 q), (134, .bool true), (129, .bool false), (10, .pointer (some ⟨b3, 0, none⟩)), (7, .int .i64 (now + ((l.getD (i).toNat (⟨0, 0, 0⟩ : Act)).gAfter))), (37, .int .i64 i), (36, .int .i64 (len : Int)), (35, .slice pa len cap), (5, .pointer (some ⟨b1, 0, none⟩))] w68 (by kernel_rfl) ?_
                    refine J.ok (OK.ldBox S100 2 138 3 0 (.int .i64 q) (by kernel_rfl) rfl (by kernel_rfl)) ?_
                    refine J.run 1 K8_182 [(139, .bool (q != q)), (134, .bool true), (129, .bool false), (10, .pointer (some ⟨b3, 0, none⟩)), (7, .int .i64 (now + ((l.getD (i).toNat (⟨0, 0, 0⟩ : Act)).gAfter))), (37, .int .i64 i), (36, .int .i64 (len : Int)), (35, .slice pa len cap), (5, .pointer (some ⟨b1, 0, none⟩))] w68 (by kernel_rfl) ?_
                    refine J.head (.bool false) (congrArg Value.bool (by simp)) ?_
                    refine J.run 6 K8_183 [(10, .pointer (some ⟨b3, 0, none⟩)), (7, .int .i64 (now + ((l.getD (i).toNat (⟨0, 0, 0⟩ : Act)).gAfter))), (37, .int .i64 i), (36, .int .i64 (len : Int)), (35, .slice pa len cap), (5, .pointer (some ⟨b1, 0, none⟩))] w68 (by kernel_rfl) ?_
                    refine J.ok (OK.ldBox S100 0 142 31 0 (.agg #[.int .i64 q, .int .i64 a, .int .i64 e, .bool o, .bool f]) (by kernel_rfl) rfl (by kernel_rfl)) ?_
                    refine J.stBox S100 2 31 0 (.agg #[.int .i64 q, .int .i64 a, .int .i64 e, .bool o, .bool f]) [.int .i64 q, .int .i64 a, .int .i64 e, .bool o, .bool f] [box b3 [.int .i64 q, .int .i64 a, .int .i64 e, .bool o, .bool f] 31, box b2 [.int .u8 ((l.getD (i).toNat (⟨0, 0, 0⟩ : Act)).gKind), .int .u16 ((l.getD (i).toNat (⟨0, 0, 0⟩ : Act)).gAfter), .int .u16 ((l.getD (i).toNat (⟨0, 0, 0⟩ : Act)).gAnswer)] 50, box b1 [.int .i64 q, .int .i64 a, .int .i64 e, .bool o, .bool f] 31] (by kernel_rfl) rfl (by kernel_rfl) (by kernel_rfl) rfl ?_
                    intro w69 S101
                    refine J.run 4 K8_184 [(143, .int .i64 (IntKind.wrap .i64 (i + 1))), (7, .int .i64 (now + ((l.getD (i).toNat (⟨0, 0, 0⟩ : Act)).gAfter))), (36, .int .i64 (len : Int)), (35, .slice pa len cap), (5, .pointer (some ⟨b1, 0, none⟩))] w69 (by kernel_rfl) ?_
                    refine J.head (.int .i64 (i + 1)) (congrArg (Value.int .i64) (IntWalk.i64_in _ (by omega))) ?_
                    refine J.run 3 K8_9 [(37, .int .i64 (i + 1)), (7, .int .i64 (now + ((l.getD (i).toNat (⟨0, 0, 0⟩ : Act)).gAfter))), (36, .int .i64 (len : Int)), (35, .slice pa len cap), (5, .pointer (some ⟨b1, 0, none⟩))] w69 (by kernel_rfl) ?_
                    have S102 : Sep w [box b3 [.int .i64 q, .int .i64 a, .int .i64 e, .bool o, .bool f] 31, box b1 [.int .i64 q, .int .i64 a, .int .i64 e, .bool o, .bool f] 31] w69 := S101.erase 1
                    clear S101
                    have S103 : Sep w [box b1 [.int .i64 q, .int .i64 a, .int .i64 e, .bool o, .bool f] 31] w69 := S102.erase 0
                    clear S102
                    refine J.run 0 K8_9 [(37, .int .i64 (i + 1)), (36, .int .i64 (len : Int)), (35, .slice pa len cap), (7, .int .i64 (now + ((l.getD (i).toNat (⟨0, 0, 0⟩ : Act)).gAfter))), (5, .pointer (some ⟨b1, 0, none⟩))] w69 (by kernel_rfl) ?_
                    exact ih1 _ (show ((len : Int) - (i + 1)).toNat < m from by omega) q a e o f (now + ((l.getD (i).toNat (⟨0, 0, 0⟩ : Act)).gAfter)) (i + 1) w69 (by omega) (by omega) (by omega) (by omega) (fk77) S103 rfl
                  · skip
                    refine J.head (.bool false) (congrArg Value.bool fk78) ?_
                    refine J.run 7 K8_185 [(130, .pointer (some ⟨b2, 0, none⟩)), (129, .bool false), (10, .pointer (some ⟨b3, 0, none⟩)), (7, .int .i64 (now + ((l.getD (i).toNat (⟨0, 0, 0⟩ : Act)).gAfter))), (37, .int .i64 i), (36, .int .i64 (len : Int)), (35, .slice pa len cap), (5, .pointer (some ⟨b1, 0, none⟩))] w68 (by kernel_rfl) ?_
                    refine J.ok (OK.ldBox S100 1 131 5 0 (.int .u8 ((l.getD (i).toNat (⟨0, 0, 0⟩ : Act)).gKind)) (by kernel_rfl) rfl (by kernel_rfl)) ?_
                    refine J.run 1 K8_186 [(132, .int .u8 (Int.tmod ((l.getD (i).toNat (⟨0, 0, 0⟩ : Act)).gKind) 4)), (129, .bool false), (10, .pointer (some ⟨b3, 0, none⟩)), (7, .int .i64 (now + ((l.getD (i).toNat (⟨0, 0, 0⟩ : Act)).gAfter))), (37, .int .i64 i), (36, .int .i64 (len : Int)), (35, .slice pa len cap), (5, .pointer (some ⟨b1, 0, none⟩))] w68 (by kernel_rfl) ?_
                    refine J.head (.int .u8 (((l.getD (i).toNat (⟨0, 0, 0⟩ : Act)).gKind) % 4)) (congrArg (Value.int .u8) (IntWalk.rem_in _ _ (by omega))) ?_
                    refine J.run 2 K8_187 [(134, .bool ((((l.getD (i).toNat (⟨0, 0, 0⟩ : Act)).gKind) % 4) != 0)), (129, .bool false), (10, .pointer (some ⟨b3, 0, none⟩)), (7, .int .i64 (now + ((l.getD (i).toNat (⟨0, 0, 0⟩ : Act)).gAfter))), (37, .int .i64 i), (36, .int .i64 (len : Int)), (35, .slice pa len cap), (5, .pointer (some ⟨b1, 0, none⟩))] w68 (by kernel_rfl) ?_
                    refine J.head (.bool true) (congrArg Value.bool (bne_iff_ne.2 fk5)) ?_
                    refine J.run 1 K8_188 [(135, .pointer (some ⟨b3, 0, none⟩)), (134, .bool true), (129, .bool false), (10, .pointer (some ⟨b3, 0, none⟩)), (7, .int .i64 (now + ((l.getD (i).toNat (⟨0, 0, 0⟩ : Act)).gAfter))), (37, .int .i64 i), (36, .int .i64 (len : Int)), (35, .slice pa len cap), (5, .pointer (some ⟨b1, 0, none⟩))] w68 (by kernel_rfl) ?_
                    refine J.ok (OK.ldBox S100 0 136 3 0 (.int .i64 q) (by kernel_rfl) rfl (by kernel_rfl)) ?_
                    refine J.run 1 K8_189 [(137, .pointer (some ⟨b1, 0, none⟩)), (136, .int .i64 q), (134, .bool true), (129, .bool false), (10, .pointer (some ⟨b3, 0, none⟩)), (7, .int .i64 (now + ((l.getD (i).toNat (⟨0, 0, 0⟩ : Act)).gAfter))), (37, .int .i64 i), (36, .int .i64 (len : Int)), (35, .slice pa len cap), (5, .pointer (some ⟨b1, 0, none⟩))] w68 (by kernel_rfl) ?_
                    refine J.ok (OK.ldBox S100 2 138 3 0 (.int .i64 q) (by kernel_rfl) rfl (by kernel_rfl)) ?_
                    refine J.run 1 K8_190 [(139, .bool (q != q)), (134, .bool true), (129, .bool false), (10, .pointer (some ⟨b3, 0, none⟩)), (7, .int .i64 (now + ((l.getD (i).toNat (⟨0, 0, 0⟩ : Act)).gAfter))), (37, .int .i64 i), (36, .int .i64 (len : Int)), (35, .slice pa len cap), (5, .pointer (some ⟨b1, 0, none⟩))] w68 (by kernel_rfl) ?_
                    refine J.head (.bool false) (congrArg Value.bool (by simp)) ?_
                    refine J.run 6 K8_191 [(10, .pointer (some ⟨b3, 0, none⟩)), (7, .int .i64 (now + ((l.getD (i).toNat (⟨0, 0, 0⟩ : Act)).gAfter))), (37, .int .i64 i), (36, .int .i64 (len : Int)), (35, .slice pa len cap), (5, .pointer (some ⟨b1, 0, none⟩))] w68 (by kernel_rfl) ?_
                    refine J.ok (OK.ldBox S100 0 142 31 0 (.agg #[.int .i64 q, .int .i64 a, .int .i64 e, .bool o, .bool f]) (by kernel_rfl) rfl (by kernel_rfl)) ?_
                    refine J.stBox S100 2 31 0 (.agg #[.int .i64 q, .int .i64 a, .int .i64 e, .bool o, .bool f]) [.int .i64 q, .int .i64 a, .int .i64 e, .bool o, .bool f] [box b3 [.int .i64 q, .int .i64 a, .int .i64 e, .bool o, .bool f] 31, box b2 [.int .u8 ((l.getD (i).toNat (⟨0, 0, 0⟩ : Act)).gKind), .int .u16 ((l.getD (i).toNat (⟨0, 0, 0⟩ : Act)).gAfter), .int .u16 ((l.getD (i).toNat (⟨0, 0, 0⟩ : Act)).gAnswer)] 50, box b1 [.int .i64 q, .int .i64 a, .int .i64 e, .bool o, .bool f] 31] (by kernel_rfl) rfl (by kernel_rfl) (by kernel_rfl) rfl ?_
                    intro w70 S104
                    refine J.run 4 K8_192 [(143, .int .i64 (IntKind.wrap .i64 (i + 1))), (7, .int .i64 (now + ((l.getD (i).toNat (⟨0, 0, 0⟩ : Act)).gAfter))), (36, .int .i64 (len : Int)), (35, .slice pa len cap), (5, .pointer (some ⟨b1, 0, none⟩))] w70 (by kernel_rfl) ?_
                    refine J.head (.int .i64 (i + 1)) (congrArg (Value.int .i64) (IntWalk.i64_in _ (by omega))) ?_
                    refine J.run 3 K8_9 [(37, .int .i64 (i + 1)), (7, .int .i64 (now + ((l.getD (i).toNat (⟨0, 0, 0⟩ : Act)).gAfter))), (36, .int .i64 (len : Int)), (35, .slice pa len cap), (5, .pointer (some ⟨b1, 0, none⟩))] w70 (by kernel_rfl) ?_
                    have S105 : Sep w [box b3 [.int .i64 q, .int .i64 a, .int .i64 e, .bool o, .bool f] 31, box b1 [.int .i64 q, .int .i64 a, .int .i64 e, .bool o, .bool f] 31] w70 := S104.erase 1
                    clear S104
                    have S106 : Sep w [box b1 [.int .i64 q, .int .i64 a, .int .i64 e, .bool o, .bool f] 31] w70 := S105.erase 0
                    clear S105
                    refine J.run 0 K8_9 [(37, .int .i64 (i + 1)), (36, .int .i64 (len : Int)), (35, .slice pa len cap), (7, .int .i64 (now + ((l.getD (i).toNat (⟨0, 0, 0⟩ : Act)).gAfter))), (5, .pointer (some ⟨b1, 0, none⟩))] w70 (by kernel_rfl) ?_
                    exact ih1 _ (show ((len : Int) - (i + 1)).toNat < m from by omega) q a e o f (now + ((l.getD (i).toNat (⟨0, 0, 0⟩ : Act)).gAfter)) (i + 1) w70 (by omega) (by omega) (by omega) (by omega) (fk77) S106 rfl
        · skip
          refine J.head (.bool false) (congrArg Value.bool (decide_eq_false fk4)) ?_
          refine J.run 6 K8_193 [(4, .bool true)] w7 (by kernel_rfl) ?_
          refine J.ret Try.f8 [.bool true] Try.func8 ⟨by kernel_rfl, trivial⟩ ?_
          refine hR _ _ ?_
          exact ⟨rfl, S7.nil⟩
      exact L8_1 _ seed 0 0 false false 0 0 w6 (by omega) (by omega) (by omega) (by omega) (valid_of (by omega) (by omega) (.inr rfl) (by omega) rfl) S6 rfl

end Go.Proofs.Ytjlmkdaeabjeoaa
