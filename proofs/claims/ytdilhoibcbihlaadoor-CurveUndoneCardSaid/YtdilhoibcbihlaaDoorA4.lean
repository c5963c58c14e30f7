/- Walks of functions of this seat, printed by a program over the engine. Conditions: as each theorem says. -/
import Derived.Test.YtdilhoibcbihlaaDoorA3
namespace Go.Proofs.YtdilhoibcbihlaaDoor
open Go.Eng Go.RowKit
set_option linter.unusedSimpArgs false
set_option linter.unusedVariables false
theorem md_core2 {a b c mode q r : Int} {m : Bool} (hc : c ≠ 0) (hm : 1 ≤ mode ∧ mode ≤ 3) (h : magF a * magF b = q * magF c + r) (h0 : 0 ≤ r) (h1 : r < magF c) (hq : 0 ≤ q) (hb : m = negB a b c ∨ (m = false ∧ (a = 0 ∨ b = 0))) :
    mulDivR a b c mode = if m then -(q + (if rndB r (magF c) m mode then 1 else 0)) else q + (if rndB r (magF c) m mode then 1 else 0) := by
  rcases hb with rfl | ⟨rfl, hz⟩
  · exact md_core hc hm h h0 h1
  · rw [md_core hc hm h h0 h1]
    have hP : magF a * magF b = 0 := by
      rcases hz with rfl | rfl
      · exact Int.zero_mul _
      · exact Int.mul_zero _
    have h2 := Int.mul_nonneg hq (show 0 ≤ magF c by omega)
    have hr : r = 0 := by omega
    have hq0 : q = 0 := by
      have h3 : q * magF c = 0 := by omega
      rcases Int.mul_eq_zero.1 h3 with h4 | h4 <;> omega
    subst hr hq0
    cases negB a b c with
    | false => rfl
    | true =>
      have e1 : rndB 0 (magF c) true mode = false := by simp [rndB]; omega
      have e2 : rndB 0 (magF c) false mode = false := by simp [rndB]; omega
      simp [e1, e2]
theorem md_biggen {a b c mode q r : Int} (hc : c ≠ 0) (hm : 1 ≤ mode ∧ mode ≤ 3) (h : magF a * magF b = q * magF c + r) (h0 : 0 ≤ r) (h1 : r < magF c) (hq : 9223372036854775809 ≤ q) : mdX a b c mode = 0 ∧ mdE a b c mode = 9 := by
  refine md_unfit hm hc (md_core hc hm h h0 h1) ?_
  split <;> split <;> omega
theorem md_zero {a b : Int} (h : a = 0 ∨ b = 0) : magF a * magF b = 0 := by
  rcases h with rfl | rfl
  · exact Int.zero_mul _
  · exact Int.mul_zero _
theorem q_top {u d q : Int} (hq : q = u / d) (hu : 0 ≤ u) (h : u / 18446744073709551616 < d) : q ≤ 18446744073709551615 := by
  have h0 : 0 ≤ u / 18446744073709551616 := Int.ediv_nonneg hu (by omega)
  have h1 : u < 18446744073709551616 * d := by omega
  have := Int.ediv_lt_of_lt_mul (a := u) (b := 18446744073709551616) (c := d) (by omega) h1
  omega
theorem q_le {q d : Int} (h0 : 0 ≤ q) (h : 1 ≤ d) : q ≤ q * d := by
  have := Int.mul_le_mul_of_nonneg_left h h0; omega
theorem neg_conv {q : Int} (h : 0 ≤ q ∧ q ≤ 9223372036854775808) : IntKind.wrap .i64 (IntKind.wrap .u64 (0 - q)) = -q := by
  rw [wrap_u64, IntKind.wrap_i64]; omega
theorem hb51 : HasBody Tryd.prog 51 := fun _ _ => by kernel_rfl
noncomputable def K51_0 : List Item := adv 11 [] (bodyOf Tryd.f51)
noncomputable def K51_1 : List Item := adv 16 [false] K51_0
noncomputable def K51_2 : List Item := adv 6 [true] K51_1
noncomputable def K51_3 : List Item := adv 7 [false] K51_1
noncomputable def K51_4 : List Item := adv 18 [] K51_3
noncomputable def K51_5 : List Item := adv 5 [] (popK K51_4)
noncomputable def K51_6 : List Item := adv 1 [] (popK K51_5)
noncomputable def K51_7 : List Item := adv 1 [] (popK (popK K51_6))
noncomputable def K51_8 : List Item := adv 20 [true] (popK K51_7)
noncomputable def K51_9 : List Item := adv 2 [] (popK K51_7)
noncomputable def K51_10 : List Item := adv 1 [] K51_9
noncomputable def K51_11 : List Item := adv 28 [false] K51_10
noncomputable def K51_12 : List Item := adv 30 [true, false, false] K51_11
noncomputable def K51_13 : List Item := adv 6 [true] K51_12
noncomputable def K51_14 : List Item := adv 6 [false] K51_12
noncomputable def K51_15 : List Item := adv 3 [] K51_14
noncomputable def K51_16 : List Item := adv 4 [] K51_3
noncomputable def K51_17 : List Item := adv 14 [] K51_16
noncomputable def K51_18 : List Item := adv 5 [] (popK K51_17)
noncomputable def K51_19 : List Item := adv 1 [] (popK K51_18)
noncomputable def K51_20 : List Item := adv 1 [] (popK (popK K51_19))
noncomputable def K51_21 : List Item := adv 20 [true] (popK K51_20)
noncomputable def K51_22 : List Item := adv 2 [] (popK K51_20)
noncomputable def K51_23 : List Item := adv 1 [] K51_22
noncomputable def K51_24 : List Item := adv 28 [false] K51_23
noncomputable def K51_25 : List Item := adv 30 [true, false, false] K51_24
noncomputable def K51_26 : List Item := adv 6 [true] K51_25
noncomputable def K51_27 : List Item := adv 6 [false] K51_25
noncomputable def K51_28 : List Item := adv 3 [] K51_27
noncomputable def K51_29 : List Item := adv 8 [] K51_16
noncomputable def K51_30 : List Item := adv 6 [] K51_29
noncomputable def K51_31 : List Item := adv 5 [] (popK K51_30)
noncomputable def K51_32 : List Item := adv 1 [] (popK K51_31)
noncomputable def K51_33 : List Item := adv 1 [] (popK (popK K51_32))
noncomputable def K51_34 : List Item := adv 20 [true] (popK K51_33)
noncomputable def K51_35 : List Item := adv 2 [] (popK K51_33)
noncomputable def K51_36 : List Item := adv 1 [] K51_35
noncomputable def K51_37 : List Item := adv 28 [false] K51_36
noncomputable def K51_38 : List Item := adv 4 [true] K51_37
noncomputable def K51_39 : List Item := adv 11 [] K51_38
noncomputable def K51_40 : List Item := adv 7 [true] K51_39
noncomputable def K51_41 : List Item := adv 6 [true] K51_40
noncomputable def K51_42 : List Item := adv 5 [false] K51_40
noncomputable def K51_43 : List Item := adv 7 [] K51_42
noncomputable def K51_44 : List Item := adv 7 [true] K51_43
noncomputable def K51_45 : List Item := adv 6 [true] K51_44
noncomputable def K51_46 : List Item := adv 7 [false] K51_44
noncomputable def K51_47 : List Item := adv 3 [] K51_46
noncomputable def K51_48 : List Item := adv 7 [false] K51_39
noncomputable def K51_49 : List Item := adv 7 [true] K51_48
noncomputable def K51_50 : List Item := adv 6 [true] K51_49
noncomputable def K51_51 : List Item := adv 7 [false] K51_49
noncomputable def K51_52 : List Item := adv 3 [] K51_51
noncomputable def K51_53 : List Item := adv 18 [false] K51_38
noncomputable def K51_54 : List Item := adv 8 [false] K51_53
noncomputable def K51_55 : List Item := adv 6 [true] K51_54
noncomputable def K51_56 : List Item := adv 6 [false] K51_54
noncomputable def K51_57 : List Item := adv 3 [] K51_56
noncomputable def K51_58 : List Item := adv 4 [] K51_0
noncomputable def K51_59 : List Item := adv 12 [false] K51_58
noncomputable def K51_60 : List Item := adv 6 [true] K51_59
noncomputable def K51_61 : List Item := adv 7 [false] K51_59
noncomputable def K51_62 : List Item := adv 18 [] K51_61
noncomputable def K51_63 : List Item := adv 5 [] (popK K51_62)
noncomputable def K51_64 : List Item := adv 1 [] (popK K51_63)
noncomputable def K51_65 : List Item := adv 1 [] (popK (popK K51_64))
noncomputable def K51_66 : List Item := adv 20 [true] (popK K51_65)
noncomputable def K51_67 : List Item := adv 2 [] (popK K51_65)
noncomputable def K51_68 : List Item := adv 1 [] K51_67
noncomputable def K51_69 : List Item := adv 28 [false] K51_68
noncomputable def K51_70 : List Item := adv 6 [false] K51_69
noncomputable def K51_71 : List Item := adv 16 [true] K51_70
noncomputable def K51_72 : List Item := adv 7 [true] K51_71
noncomputable def K51_73 : List Item := adv 6 [true] K51_72
noncomputable def K51_74 : List Item := adv 5 [false] K51_72
noncomputable def K51_75 : List Item := adv 15 [false] K51_74
noncomputable def K51_76 : List Item := adv 6 [true] K51_75
noncomputable def K51_77 : List Item := adv 6 [false] K51_75
noncomputable def K51_78 : List Item := adv 3 [] K51_77
noncomputable def K51_79 : List Item := adv 15 [false, false] K51_71
noncomputable def K51_80 : List Item := adv 6 [true] K51_79
noncomputable def K51_81 : List Item := adv 6 [false] K51_79
noncomputable def K51_82 : List Item := adv 3 [] K51_81
noncomputable def K51_83 : List Item := adv 4 [] K51_61
noncomputable def K51_84 : List Item := adv 14 [] K51_83
noncomputable def K51_85 : List Item := adv 5 [] (popK K51_84)
noncomputable def K51_86 : List Item := adv 1 [] (popK K51_85)
noncomputable def K51_87 : List Item := adv 1 [] (popK (popK K51_86))
noncomputable def K51_88 : List Item := adv 20 [true] (popK K51_87)
noncomputable def K51_89 : List Item := adv 2 [] (popK K51_87)
noncomputable def K51_90 : List Item := adv 1 [] K51_89
noncomputable def K51_91 : List Item := adv 28 [false] K51_90
noncomputable def K51_92 : List Item := adv 6 [false] K51_91
noncomputable def K51_93 : List Item := adv 16 [true] K51_92
noncomputable def K51_94 : List Item := adv 7 [true] K51_93
noncomputable def K51_95 : List Item := adv 6 [true] K51_94
noncomputable def K51_96 : List Item := adv 5 [false] K51_94
noncomputable def K51_97 : List Item := adv 15 [false] K51_96
noncomputable def K51_98 : List Item := adv 6 [true] K51_97
noncomputable def K51_99 : List Item := adv 6 [false] K51_97
noncomputable def K51_100 : List Item := adv 3 [] K51_99
noncomputable def K51_101 : List Item := adv 15 [false, false] K51_93
noncomputable def K51_102 : List Item := adv 6 [true] K51_101
noncomputable def K51_103 : List Item := adv 6 [false] K51_101
noncomputable def K51_104 : List Item := adv 3 [] K51_103
noncomputable def K51_105 : List Item := adv 8 [] K51_83
noncomputable def K51_106 : List Item := adv 6 [] K51_105
noncomputable def K51_107 : List Item := adv 5 [] (popK K51_106)
noncomputable def K51_108 : List Item := adv 1 [] (popK K51_107)
noncomputable def K51_109 : List Item := adv 1 [] (popK (popK K51_108))
noncomputable def K51_110 : List Item := adv 20 [true] (popK K51_109)
noncomputable def K51_111 : List Item := adv 2 [] (popK K51_109)
noncomputable def K51_112 : List Item := adv 1 [] K51_111
noncomputable def K51_113 : List Item := adv 28 [false] K51_112
noncomputable def K51_114 : List Item := adv 6 [false] K51_113
noncomputable def K51_115 : List Item := adv 5 [true] K51_114
noncomputable def K51_116 : List Item := adv 18 [false] K51_115
noncomputable def K51_117 : List Item := adv 7 [true] K51_116
noncomputable def K51_118 : List Item := adv 6 [true] K51_117
noncomputable def K51_119 : List Item := adv 7 [false] K51_117
noncomputable def K51_120 : List Item := adv 3 [] K51_119
noncomputable def K51_121 : List Item := adv 11 [] K51_115
noncomputable def K51_122 : List Item := adv 7 [true] K51_121
noncomputable def K51_123 : List Item := adv 6 [true] K51_122
noncomputable def K51_124 : List Item := adv 5 [false] K51_122
noncomputable def K51_125 : List Item := adv 7 [] K51_124
noncomputable def K51_126 : List Item := adv 8 [false] K51_125
noncomputable def K51_127 : List Item := adv 6 [true] K51_126
noncomputable def K51_128 : List Item := adv 6 [false] K51_126
noncomputable def K51_129 : List Item := adv 3 [] K51_128
noncomputable def K51_130 : List Item := adv 7 [false] K51_121
noncomputable def K51_131 : List Item := adv 8 [false] K51_130
noncomputable def K51_132 : List Item := adv 6 [true] K51_131
noncomputable def K51_133 : List Item := adv 6 [false] K51_131
noncomputable def K51_134 : List Item := adv 3 [] K51_133
noncomputable def K51_135 : List Item := adv 4 [] K51_58
noncomputable def K51_136 : List Item := adv 8 [false] K51_135
noncomputable def K51_137 : List Item := adv 6 [true] K51_136
noncomputable def K51_138 : List Item := adv 7 [false] K51_136
noncomputable def K51_139 : List Item := adv 18 [] K51_138
noncomputable def K51_140 : List Item := adv 5 [] (popK K51_139)
noncomputable def K51_141 : List Item := adv 1 [] (popK K51_140)
noncomputable def K51_142 : List Item := adv 1 [] (popK (popK K51_141))
noncomputable def K51_143 : List Item := adv 20 [true] (popK K51_142)
noncomputable def K51_144 : List Item := adv 2 [] (popK K51_142)
noncomputable def K51_145 : List Item := adv 1 [] K51_144
noncomputable def K51_146 : List Item := adv 28 [false] K51_145
noncomputable def K51_147 : List Item := adv 6 [false] K51_146
noncomputable def K51_148 : List Item := adv 6 [false] K51_147
noncomputable def K51_149 : List Item := adv 6 [true] K51_148
noncomputable def K51_150 : List Item := adv 2 [] K51_149
noncomputable def K51_151 : List Item := adv 25 [true] K51_150
noncomputable def K51_152 : List Item := adv 6 [true] K51_151
noncomputable def K51_153 : List Item := adv 5 [false] K51_151
noncomputable def K51_154 : List Item := adv 15 [false] K51_153
noncomputable def K51_155 : List Item := adv 6 [true] K51_154
noncomputable def K51_156 : List Item := adv 6 [false] K51_154
noncomputable def K51_157 : List Item := adv 3 [] K51_156
noncomputable def K51_158 : List Item := adv 4 [] K51_150
noncomputable def K51_159 : List Item := adv 2 [] K51_158
noncomputable def K51_160 : List Item := adv 19 [true] K51_159
noncomputable def K51_161 : List Item := adv 6 [true] K51_160
noncomputable def K51_162 : List Item := adv 5 [false] K51_160
noncomputable def K51_163 : List Item := adv 15 [false] K51_162
noncomputable def K51_164 : List Item := adv 6 [true] K51_163
noncomputable def K51_165 : List Item := adv 6 [false] K51_163
noncomputable def K51_166 : List Item := adv 3 [] K51_165
noncomputable def K51_167 : List Item := adv 27 [false, false] K51_159
noncomputable def K51_168 : List Item := adv 6 [true] K51_167
noncomputable def K51_169 : List Item := adv 6 [false] K51_167
noncomputable def K51_170 : List Item := adv 3 [] K51_169
noncomputable def K51_171 : List Item := adv 4 [] K51_138
noncomputable def K51_172 : List Item := adv 14 [] K51_171
noncomputable def K51_173 : List Item := adv 5 [] (popK K51_172)
noncomputable def K51_174 : List Item := adv 1 [] (popK K51_173)
noncomputable def K51_175 : List Item := adv 1 [] (popK (popK K51_174))
noncomputable def K51_176 : List Item := adv 20 [true] (popK K51_175)
noncomputable def K51_177 : List Item := adv 2 [] (popK K51_175)
noncomputable def K51_178 : List Item := adv 1 [] K51_177
noncomputable def K51_179 : List Item := adv 28 [false] K51_178
noncomputable def K51_180 : List Item := adv 6 [false] K51_179
noncomputable def K51_181 : List Item := adv 6 [false] K51_180
noncomputable def K51_182 : List Item := adv 6 [true] K51_181
noncomputable def K51_183 : List Item := adv 2 [] K51_182
noncomputable def K51_184 : List Item := adv 25 [true] K51_183
noncomputable def K51_185 : List Item := adv 6 [true] K51_184
noncomputable def K51_186 : List Item := adv 5 [false] K51_184
noncomputable def K51_187 : List Item := adv 15 [false] K51_186
noncomputable def K51_188 : List Item := adv 6 [true] K51_187
noncomputable def K51_189 : List Item := adv 6 [false] K51_187
noncomputable def K51_190 : List Item := adv 3 [] K51_189
noncomputable def K51_191 : List Item := adv 4 [] K51_183
noncomputable def K51_192 : List Item := adv 2 [] K51_191
noncomputable def K51_193 : List Item := adv 19 [true] K51_192
noncomputable def K51_194 : List Item := adv 6 [true] K51_193
noncomputable def K51_195 : List Item := adv 5 [false] K51_193
noncomputable def K51_196 : List Item := adv 15 [false] K51_195
noncomputable def K51_197 : List Item := adv 6 [true] K51_196
noncomputable def K51_198 : List Item := adv 6 [false] K51_196
noncomputable def K51_199 : List Item := adv 3 [] K51_198
noncomputable def K51_200 : List Item := adv 27 [false, false] K51_192
noncomputable def K51_201 : List Item := adv 6 [true] K51_200
noncomputable def K51_202 : List Item := adv 6 [false] K51_200
noncomputable def K51_203 : List Item := adv 3 [] K51_202
noncomputable def K51_204 : List Item := adv 8 [] K51_171
noncomputable def K51_205 : List Item := adv 6 [] K51_204
noncomputable def K51_206 : List Item := adv 5 [] (popK K51_205)
noncomputable def K51_207 : List Item := adv 1 [] (popK K51_206)
noncomputable def K51_208 : List Item := adv 1 [] (popK (popK K51_207))
noncomputable def K51_209 : List Item := adv 20 [true] (popK K51_208)
noncomputable def K51_210 : List Item := adv 2 [] (popK K51_208)
noncomputable def K51_211 : List Item := adv 1 [] K51_210
noncomputable def K51_212 : List Item := adv 28 [false] K51_211
noncomputable def K51_213 : List Item := adv 6 [false] K51_212
noncomputable def K51_214 : List Item := adv 6 [false] K51_213
noncomputable def K51_215 : List Item := adv 6 [true] K51_214
noncomputable def K51_216 : List Item := adv 2 [] K51_215
noncomputable def K51_217 : List Item := adv 25 [true] K51_216
noncomputable def K51_218 : List Item := adv 6 [true] K51_217
noncomputable def K51_219 : List Item := adv 5 [false] K51_217
noncomputable def K51_220 : List Item := adv 7 [] K51_219
noncomputable def K51_221 : List Item := adv 7 [true] K51_220
noncomputable def K51_222 : List Item := adv 6 [true] K51_221
noncomputable def K51_223 : List Item := adv 7 [false] K51_221
noncomputable def K51_224 : List Item := adv 3 [] K51_223
noncomputable def K51_225 : List Item := adv 8 [false] K51_220
noncomputable def K51_226 : List Item := adv 6 [true] K51_225
noncomputable def K51_227 : List Item := adv 6 [false] K51_225
noncomputable def K51_228 : List Item := adv 3 [] K51_227
noncomputable def K51_229 : List Item := adv 4 [] K51_216
noncomputable def K51_230 : List Item := adv 2 [] K51_229
noncomputable def K51_231 : List Item := adv 12 [] K51_230
noncomputable def K51_232 : List Item := adv 7 [false] K51_231
noncomputable def K51_233 : List Item := adv 7 [true] K51_232
noncomputable def K51_234 : List Item := adv 6 [true] K51_233
noncomputable def K51_235 : List Item := adv 7 [false] K51_233
noncomputable def K51_236 : List Item := adv 3 [] K51_235
noncomputable def K51_237 : List Item := adv 7 [true] K51_231
noncomputable def K51_238 : List Item := adv 6 [true] K51_237
noncomputable def K51_239 : List Item := adv 5 [false] K51_237
noncomputable def K51_240 : List Item := adv 7 [] K51_239
noncomputable def K51_241 : List Item := adv 8 [false] K51_240
noncomputable def K51_242 : List Item := adv 6 [true] K51_241
noncomputable def K51_243 : List Item := adv 6 [false] K51_241
noncomputable def K51_244 : List Item := adv 3 [] K51_243
noncomputable def K51_245 : List Item := adv 19 [false] K51_230
noncomputable def K51_246 : List Item := adv 7 [true] K51_245
noncomputable def K51_247 : List Item := adv 6 [true] K51_246
noncomputable def K51_248 : List Item := adv 7 [false] K51_246
noncomputable def K51_249 : List Item := adv 3 [] K51_248
noncomputable def K51_250 : List Item := adv 8 [false] K51_245
noncomputable def K51_251 : List Item := adv 6 [true] K51_250
noncomputable def K51_252 : List Item := adv 6 [false] K51_250
noncomputable def K51_253 : List Item := adv 3 [] K51_252
noncomputable def K51_254 : List Item := adv 6 [true] K51_135
set_option maxRecDepth 20000 in
set_option maxHeartbeats 20000000 in
theorem rmuldiv_any (a b c mode : Int) (w : World) (ha : (-9223372036854775808) ≤ a ∧ a ≤ 9223372036854775807) (hb : (-9223372036854775808) ≤ b ∧ b ≤ 9223372036854775807) (hc : (-9223372036854775808) ≤ c ∧ c ≤ 9223372036854775807) : Ret Tryd.prog 51 #[.int .i64 a, .int .i64 b, .int .i64 c, .int .i64 mode] w (fun v w' => v = mdV a b c mode ∧ Sep w [] w') := by
  have S0 := Sep.refl w
  refine Ret.named fun R hR => ?_
  refine Ret.of_J (N := 108) [(0, .int .i64 a), (1, .int .i64 b), (2, .int .i64 c), (3, .int .i64 mode)] Tryd.func51 rfl rfl (Nat.le_of_ble_eq_true (by kernel_rfl)) (by kernel_rfl) ?_
  refine J.run 11 K51_0 [(18, .bool (mode != 1)), (0, .int .i64 a), (1, .int .i64 b), (2, .int .i64 c), (3, .int .i64 mode)] w (by kernel_rfl) ?_
  by_cases fk1 : mode = 1
  · skip
    refine J.head (.bool false) (congrArg Value.bool (bne_eq_false_iff_eq.2 fk1)) ?_
    refine J.run 16 K51_1 [(27, .bool (c == 0)), (0, .int .i64 a), (1, .int .i64 b), (2, .int .i64 c), (3, .int .i64 mode)] w (by kernel_rfl) ?_
    by_cases fk2 : c = 0
    · skip
      refine J.head (.bool true) (congrArg Value.bool (beq_iff_eq.2 fk2)) ?_
      refine J.run 6 K51_2 [(9, .int .i64 10), (8, .int .i64 0)] w (by kernel_rfl) ?_
      refine J.ret Tryd.f51 [.int .i64 0, .int .i64 10] Tryd.func51 ⟨by kernel_rfl, by kernel_rfl, trivial⟩ ?_
      refine hR _ _ ?_
      have e1 : mdX a b c mode = 0 ∧ mdE a b c mode = 10 := by unfold mdX mdE; rw [if_neg (by omega), if_pos (by omega), if_neg (by omega), if_pos (by omega)]; exact ⟨rfl, rfl⟩
      exact ⟨by rw [tup_two, mdV, e1.1, e1.2], S0.nil⟩
    · skip
      refine J.head (.bool false) (congrArg Value.bool (beq_eq_false_iff_ne.2 fk2)) ?_
      refine J.run 7 K51_3 [(30, .bool (a != 0)), (0, .int .i64 a), (1, .int .i64 b), (2, .int .i64 c), (3, .int .i64 mode)] w (by kernel_rfl) ?_
      by_cases fk3 : a = 0
      · skip
        refine J.head (.bool false) (congrArg Value.bool (bne_eq_false_iff_eq.2 fk3)) ?_
        refine J.run 18 K51_4 [(44, .int .i64 c), (10, .bool false), (0, .int .i64 a), (1, .int .i64 b), (3, .int .i64 mode)] w (by kernel_rfl) ?_
        have := mag_le c (by omega)
        refine J.callF 45 61 #[.int .i64 c] hb61 (by kernel_rfl) (size_any c _ (by omega)) ?_
        rintro _ w1 ⟨rfl, T1⟩
        have S1 : Sep w [] w1 := S0.trans T1
        clear T1
        obtain ⟨d, hd⟩ : ∃ x : Int, x = magF c := ⟨_, rfl⟩
        refine J.head (.int .u64 d) (congrArg (Value.int .u64) hd.symm) ?_
        refine J.run 5 K51_5 [(47, .int .i64 a), (11, .int .u64 d), (10, .bool false), (1, .int .i64 b), (3, .int .i64 mode)] w1 (by kernel_rfl) ?_
        have := mag_le a (by omega)
        refine J.callF 48 61 #[.int .i64 a] hb61 (by kernel_rfl) (size_any a _ (by omega)) ?_
        rintro _ w2 ⟨rfl, T2⟩
        have S2 : Sep w [] w2 := S1.trans T2
        clear T2 S1
        obtain ⟨ma, hma⟩ : ∃ x : Int, x = magF a := ⟨_, rfl⟩
        refine J.head (.int .u64 ma) (congrArg (Value.int .u64) hma.symm) ?_
        refine J.run 1 K51_6 [(49, .int .i64 b), (48, .int .u64 ma), (11, .int .u64 d), (10, .bool false), (3, .int .i64 mode)] w2 (by kernel_rfl) ?_
        have := mag_le b (by omega)
        refine J.callF 50 61 #[.int .i64 b] hb61 (by kernel_rfl) (size_any b _ (by omega)) ?_
        rintro _ w3 ⟨rfl, T3⟩
        have S3 : Sep w [] w3 := S2.trans T3
        clear T3 S2
        obtain ⟨mb, hmb⟩ : ∃ x : Int, x = magF b := ⟨_, rfl⟩
        refine J.head (.int .u64 mb) (congrArg (Value.int .u64) hmb.symm) ?_
        have hPb0 : 0 ≤ magF a * magF b := Int.mul_nonneg (by unfold magF; omega) (by unfold magF; omega)
        have hPb : 0 ≤ magF a * magF b ∧ magF a * magF b = ma * mb := ⟨hPb0, by rw [hma, hmb]⟩
        have hmx := mul_max (x := ma) (y := mb) (by omega) (by omega)
        refine J.callF 51 67 #[.int .u64 ma, .int .u64 mb] hb67 (by kernel_rfl) (times_any ma mb _ (by omega) (by omega)) ?_
        rintro _ w4 ⟨rfl, T4⟩
        have S4 : Sep w [] w4 := S3.trans T4
        clear T4 S3
        refine J.run 1 K51_7 [(52, .int .u64 d), (51, .agg #[.int .u64 (ma * mb / 18446744073709551616), .int .u64 (ma * mb % 18446744073709551616)]), (11, .int .u64 d), (10, .bool false), (3, .int .i64 mode)] w4 (by kernel_rfl) ?_
        by_cases fk4 : d ≤ (ma * mb / 18446744073709551616)
        · skip
          refine J.callF 53 66 #[.agg #[.int .u64 (ma * mb / 18446744073709551616), .int .u64 (ma * mb % 18446744073709551616)], .int .u64 d] hb66 (by kernel_rfl) (over_any (ma * mb / 18446744073709551616) (ma * mb % 18446744073709551616) d _ (by omega) (by omega) (by omega)) ?_
          rintro _ w5 ⟨rfl, T5⟩
          have S5 : Sep w [] w5 := S4.trans T5
          clear T5 S4
          refine J.head (.tuple #[.int .u64 0, .int .u64 0, .bool false]) (by first | (simp only [overV, fk4, reduceCtorEq, ↓reduceIte]; done) | simp [overV, fk4]) ?_
          refine J.run 20 K51_8 [(9, .int .i64 9), (8, .int .i64 0)] w5 (by kernel_rfl) ?_
          refine J.ret Tryd.f51 [.int .i64 0, .int .i64 9] Tryd.func51 ⟨by kernel_rfl, by kernel_rfl, trivial⟩ ?_
          refine hR _ _ ?_
          have hc0 : c ≠ 0 := by omega
          have e1 := md_big (a := a) (b := b) (mode := mode) (by omega) hc0 hPb0 (by omega)
          exact ⟨by rw [tup_two, mdV, e1.1, e1.2], S5.nil⟩
        · skip
          refine J.callF 53 66 #[.agg #[.int .u64 (ma * mb / 18446744073709551616), .int .u64 (ma * mb % 18446744073709551616)], .int .u64 d] hb66 (by kernel_rfl) (over_any (ma * mb / 18446744073709551616) (ma * mb % 18446744073709551616) d _ (by omega) (by omega) (by omega)) ?_
          rintro _ w6 ⟨rfl, T6⟩
          have S6 : Sep w [] w6 := S4.trans T6
          clear T6 S4
          refine J.head (.tuple #[.int .u64 (((ma * mb / 18446744073709551616) * 18446744073709551616 + (ma * mb % 18446744073709551616)) / d), .int .u64 (((ma * mb / 18446744073709551616) * 18446744073709551616 + (ma * mb % 18446744073709551616)) % d), .bool true]) (by first | (simp only [overV, fk4, reduceCtorEq, ↓reduceIte]; done) | simp [overV, fk4]) ?_
          refine J.run 2 K51_9 [(54, .int .u64 (((ma * mb / 18446744073709551616) * 18446744073709551616 + (ma * mb % 18446744073709551616)) / d)), (46, .tuple #[.int .u64 (((ma * mb / 18446744073709551616) * 18446744073709551616 + (ma * mb % 18446744073709551616)) / d), .int .u64 (((ma * mb / 18446744073709551616) * 18446744073709551616 + (ma * mb % 18446744073709551616)) % d), .bool true]), (11, .int .u64 d), (10, .bool false), (3, .int .i64 mode)] w6 (by kernel_rfl) ?_
          obtain ⟨q, hq⟩ : ∃ x : Int, x = ((ma * mb / 18446744073709551616) * 18446744073709551616 + (ma * mb % 18446744073709551616)) / d := ⟨_, rfl⟩
          refine J.head (.int .u64 q) (congrArg (Value.int .u64) hq.symm) ?_
          have hq5 := q_top hq (by omega) (by omega)
          refine J.run 1 K51_10 [(55, .int .u64 (((ma * mb / 18446744073709551616) * 18446744073709551616 + (ma * mb % 18446744073709551616)) % d)), (54, .int .u64 q), (46, .tuple #[.int .u64 (((ma * mb / 18446744073709551616) * 18446744073709551616 + (ma * mb % 18446744073709551616)) / d), .int .u64 (((ma * mb / 18446744073709551616) * 18446744073709551616 + (ma * mb % 18446744073709551616)) % d), .bool true]), (11, .int .u64 d), (10, .bool false), (3, .int .i64 mode)] w6 (by kernel_rfl) ?_
          obtain ⟨r, hr⟩ : ∃ x : Int, x = ((ma * mb / 18446744073709551616) * 18446744073709551616 + (ma * mb % 18446744073709551616)) % d := ⟨_, rfl⟩
          refine J.head (.int .u64 r) (congrArg (Value.int .u64) hr.symm) ?_
          obtain ⟨hq1, hq2, hq3, hq4⟩ := qr_facts hq hr (by omega) (by omega)
          have hq6 := q_le (q := q) (d := d) hq4 (by omega)
          have hz : (a = 0 ∨ b = 0) → ma * mb = 0 := fun h => by rw [← hPb.2]; exact md_zero h
          refine J.run 28 K51_11 [(60, .bool (mode == 1)), (59, .int .i64 mode), (15, .bool false), (13, .int .u64 r), (12, .int .u64 q), (11, .int .u64 d), (10, .bool false)] w6 (by kernel_rfl) ?_
          refine J.head (.bool true) (congrArg Value.bool (beq_iff_eq.2 fk1)) ?_
          refine J.run 30 K51_12 [(105, .bool (decide (q ≥ 9223372036854775808))), (12, .int .u64 q)] w6 (by kernel_rfl) ?_
          by_cases fk6 : q ≥ 9223372036854775808
          · skip
            refine J.head (.bool true) (congrArg Value.bool (decide_eq_true fk6)) ?_
            refine J.run 6 K51_13 [(9, .int .i64 9), (8, .int .i64 0)] w6 (by kernel_rfl) ?_
            refine J.ret Tryd.f51 [.int .i64 0, .int .i64 9] Tryd.func51 ⟨by kernel_rfl, by kernel_rfl, trivial⟩ ?_
            refine hR _ _ ?_
            have hc0 : c ≠ 0 := by omega
            subst hd
            have e0 := md_core2 (a := a) (b := b) (c := c) (mode := mode) (q := q) (r := r) (m := false) hc0 (by omega) (by omega) (by omega) (by omega) (by omega) (.inr ⟨rfl, by omega⟩)
            have e3 : mulDivR a b c mode = q := by rw [e0]; simp [rndB, tup_one, tup_two, tup_three, (beq_iff_eq.2 fk1), (beq_iff_eq.2 (Eq.symm fk1)), (Eq.symm fk1), fk2, (beq_eq_false_iff_ne.2 fk2), (beq_eq_false_iff_ne.2 (Ne.symm fk2)), (beq_iff_eq.2 fk3), (beq_iff_eq.2 (Eq.symm fk3)), (Eq.symm fk3), fk4, (decide_eq_false fk4), fk6, (decide_eq_true fk6)] <;> omega
            have e1 := md_unfit (by omega) hc0 e3 (by omega)
            exact ⟨by rw [tup_two, mdV, e1.1, e1.2], S6.nil⟩
          · skip
            refine J.head (.bool false) (congrArg Value.bool (decide_eq_false fk6)) ?_
            refine J.run 6 K51_14 [(107, .int .i64 (IntKind.wrap .i64 q))] w6 (by kernel_rfl) ?_
            refine J.head (.int .i64 q) (congrArg (Value.int .i64) (IntWalk.i64_in _ (by omega))) ?_
            refine J.run 3 K51_15 [(9, .int .i64 0), (8, .int .i64 q)] w6 (by kernel_rfl) ?_
            refine J.ret Tryd.f51 [.int .i64 q, .int .i64 0] Tryd.func51 ⟨by kernel_rfl, by kernel_rfl, trivial⟩ ?_
            refine hR _ _ ?_
            have hc0 : c ≠ 0 := by omega
            subst hd
            have e0 := md_core2 (a := a) (b := b) (c := c) (mode := mode) (q := q) (r := r) (m := false) hc0 (by omega) (by omega) (by omega) (by omega) (by omega) (.inr ⟨rfl, by omega⟩)
            have e3 : mulDivR a b c mode = q := by rw [e0]; simp [rndB, tup_one, tup_two, tup_three, (beq_iff_eq.2 fk1), (beq_iff_eq.2 (Eq.symm fk1)), (Eq.symm fk1), fk2, (beq_eq_false_iff_ne.2 fk2), (beq_eq_false_iff_ne.2 (Ne.symm fk2)), (beq_iff_eq.2 fk3), (beq_iff_eq.2 (Eq.symm fk3)), (Eq.symm fk3), fk4, (decide_eq_false fk4), fk6, (decide_eq_false fk6)] <;> omega
            have e1 := md_fit (by omega) hc0 e3 (by omega)
            exact ⟨by rw [tup_two, mdV, e1.1, e1.2], S6.nil⟩
      · skip
        refine J.head (.bool true) (congrArg Value.bool (bne_iff_ne.2 fk3)) ?_
        refine J.run 4 K51_16 [(34, .bool (b != 0)), (0, .int .i64 a), (1, .int .i64 b), (2, .int .i64 c), (3, .int .i64 mode)] w (by kernel_rfl) ?_
        by_cases fk7 : b = 0
        · skip
          refine J.head (.bool false) (congrArg Value.bool (bne_eq_false_iff_eq.2 fk7)) ?_
          refine J.run 14 K51_17 [(44, .int .i64 c), (10, .bool false), (0, .int .i64 a), (1, .int .i64 b), (3, .int .i64 mode)] w (by kernel_rfl) ?_
          have := mag_le c (by omega)
          refine J.callF 45 61 #[.int .i64 c] hb61 (by kernel_rfl) (size_any c _ (by omega)) ?_
          rintro _ w7 ⟨rfl, T7⟩
          have S7 : Sep w [] w7 := S0.trans T7
          clear T7
          obtain ⟨d, hd⟩ : ∃ x : Int, x = magF c := ⟨_, rfl⟩
          refine J.head (.int .u64 d) (congrArg (Value.int .u64) hd.symm) ?_
          refine J.run 5 K51_18 [(47, .int .i64 a), (11, .int .u64 d), (10, .bool false), (1, .int .i64 b), (3, .int .i64 mode)] w7 (by kernel_rfl) ?_
          have := mag_le a (by omega)
          refine J.callF 48 61 #[.int .i64 a] hb61 (by kernel_rfl) (size_any a _ (by omega)) ?_
          rintro _ w8 ⟨rfl, T8⟩
          have S8 : Sep w [] w8 := S7.trans T8
          clear T8 S7
          obtain ⟨ma, hma⟩ : ∃ x : Int, x = magF a := ⟨_, rfl⟩
          refine J.head (.int .u64 ma) (congrArg (Value.int .u64) hma.symm) ?_
          refine J.run 1 K51_19 [(49, .int .i64 b), (48, .int .u64 ma), (11, .int .u64 d), (10, .bool false), (3, .int .i64 mode)] w8 (by kernel_rfl) ?_
          have := mag_le b (by omega)
          refine J.callF 50 61 #[.int .i64 b] hb61 (by kernel_rfl) (size_any b _ (by omega)) ?_
          rintro _ w9 ⟨rfl, T9⟩
          have S9 : Sep w [] w9 := S8.trans T9
          clear T9 S8
          obtain ⟨mb, hmb⟩ : ∃ x : Int, x = magF b := ⟨_, rfl⟩
          refine J.head (.int .u64 mb) (congrArg (Value.int .u64) hmb.symm) ?_
          have hPb0 : 0 ≤ magF a * magF b := Int.mul_nonneg (by unfold magF; omega) (by unfold magF; omega)
          have hPb : 0 ≤ magF a * magF b ∧ magF a * magF b = ma * mb := ⟨hPb0, by rw [hma, hmb]⟩
          have hmx := mul_max (x := ma) (y := mb) (by omega) (by omega)
          refine J.callF 51 67 #[.int .u64 ma, .int .u64 mb] hb67 (by kernel_rfl) (times_any ma mb _ (by omega) (by omega)) ?_
          rintro _ w10 ⟨rfl, T10⟩
          have S10 : Sep w [] w10 := S9.trans T10
          clear T10 S9
          refine J.run 1 K51_20 [(52, .int .u64 d), (51, .agg #[.int .u64 (ma * mb / 18446744073709551616), .int .u64 (ma * mb % 18446744073709551616)]), (11, .int .u64 d), (10, .bool false), (3, .int .i64 mode)] w10 (by kernel_rfl) ?_
          by_cases fk8 : d ≤ (ma * mb / 18446744073709551616)
          · skip
            refine J.callF 53 66 #[.agg #[.int .u64 (ma * mb / 18446744073709551616), .int .u64 (ma * mb % 18446744073709551616)], .int .u64 d] hb66 (by kernel_rfl) (over_any (ma * mb / 18446744073709551616) (ma * mb % 18446744073709551616) d _ (by omega) (by omega) (by omega)) ?_
            rintro _ w11 ⟨rfl, T11⟩
            have S11 : Sep w [] w11 := S10.trans T11
            clear T11 S10
            refine J.head (.tuple #[.int .u64 0, .int .u64 0, .bool false]) (by first | (simp only [overV, fk8, reduceCtorEq, ↓reduceIte]; done) | simp [overV, fk8]) ?_
            refine J.run 20 K51_21 [(9, .int .i64 9), (8, .int .i64 0)] w11 (by kernel_rfl) ?_
            refine J.ret Tryd.f51 [.int .i64 0, .int .i64 9] Tryd.func51 ⟨by kernel_rfl, by kernel_rfl, trivial⟩ ?_
            refine hR _ _ ?_
            have hc0 : c ≠ 0 := by omega
            have e1 := md_big (a := a) (b := b) (mode := mode) (by omega) hc0 hPb0 (by omega)
            exact ⟨by rw [tup_two, mdV, e1.1, e1.2], S11.nil⟩
          · skip
            refine J.callF 53 66 #[.agg #[.int .u64 (ma * mb / 18446744073709551616), .int .u64 (ma * mb % 18446744073709551616)], .int .u64 d] hb66 (by kernel_rfl) (over_any (ma * mb / 18446744073709551616) (ma * mb % 18446744073709551616) d _ (by omega) (by omega) (by omega)) ?_
            rintro _ w12 ⟨rfl, T12⟩
            have S12 : Sep w [] w12 := S10.trans T12
            clear T12 S10
            refine J.head (.tuple #[.int .u64 (((ma * mb / 18446744073709551616) * 18446744073709551616 + (ma * mb % 18446744073709551616)) / d), .int .u64 (((ma * mb / 18446744073709551616) * 18446744073709551616 + (ma * mb % 18446744073709551616)) % d), .bool true]) (by first | (simp only [overV, fk8, reduceCtorEq, ↓reduceIte]; done) | simp [overV, fk8]) ?_
            refine J.run 2 K51_22 [(54, .int .u64 (((ma * mb / 18446744073709551616) * 18446744073709551616 + (ma * mb % 18446744073709551616)) / d)), (46, .tuple #[.int .u64 (((ma * mb / 18446744073709551616) * 18446744073709551616 + (ma * mb % 18446744073709551616)) / d), .int .u64 (((ma * mb / 18446744073709551616) * 18446744073709551616 + (ma * mb % 18446744073709551616)) % d), .bool true]), (11, .int .u64 d), (10, .bool false), (3, .int .i64 mode)] w12 (by kernel_rfl) ?_
            obtain ⟨q, hq⟩ : ∃ x : Int, x = ((ma * mb / 18446744073709551616) * 18446744073709551616 + (ma * mb % 18446744073709551616)) / d := ⟨_, rfl⟩
            refine J.head (.int .u64 q) (congrArg (Value.int .u64) hq.symm) ?_
            have hq5 := q_top hq (by omega) (by omega)
            refine J.run 1 K51_23 [(55, .int .u64 (((ma * mb / 18446744073709551616) * 18446744073709551616 + (ma * mb % 18446744073709551616)) % d)), (54, .int .u64 q), (46, .tuple #[.int .u64 (((ma * mb / 18446744073709551616) * 18446744073709551616 + (ma * mb % 18446744073709551616)) / d), .int .u64 (((ma * mb / 18446744073709551616) * 18446744073709551616 + (ma * mb % 18446744073709551616)) % d), .bool true]), (11, .int .u64 d), (10, .bool false), (3, .int .i64 mode)] w12 (by kernel_rfl) ?_
            obtain ⟨r, hr⟩ : ∃ x : Int, x = ((ma * mb / 18446744073709551616) * 18446744073709551616 + (ma * mb % 18446744073709551616)) % d := ⟨_, rfl⟩
            refine J.head (.int .u64 r) (congrArg (Value.int .u64) hr.symm) ?_
            obtain ⟨hq1, hq2, hq3, hq4⟩ := qr_facts hq hr (by omega) (by omega)
            have hq6 := q_le (q := q) (d := d) hq4 (by omega)
            have hz : (a = 0 ∨ b = 0) → ma * mb = 0 := fun h => by rw [← hPb.2]; exact md_zero h
            refine J.run 28 K51_24 [(60, .bool (mode == 1)), (59, .int .i64 mode), (15, .bool false), (13, .int .u64 r), (12, .int .u64 q), (11, .int .u64 d), (10, .bool false)] w12 (by kernel_rfl) ?_
            refine J.head (.bool true) (congrArg Value.bool (beq_iff_eq.2 fk1)) ?_
            refine J.run 30 K51_25 [(105, .bool (decide (q ≥ 9223372036854775808))), (12, .int .u64 q)] w12 (by kernel_rfl) ?_
            by_cases fk10 : q ≥ 9223372036854775808
            · skip
              refine J.head (.bool true) (congrArg Value.bool (decide_eq_true fk10)) ?_
              refine J.run 6 K51_26 [(9, .int .i64 9), (8, .int .i64 0)] w12 (by kernel_rfl) ?_
              refine J.ret Tryd.f51 [.int .i64 0, .int .i64 9] Tryd.func51 ⟨by kernel_rfl, by kernel_rfl, trivial⟩ ?_
              refine hR _ _ ?_
              have hc0 : c ≠ 0 := by omega
              subst hd
              have e0 := md_core2 (a := a) (b := b) (c := c) (mode := mode) (q := q) (r := r) (m := false) hc0 (by omega) (by omega) (by omega) (by omega) (by omega) (.inr ⟨rfl, by omega⟩)
              have e3 : mulDivR a b c mode = q := by rw [e0]; simp [rndB, tup_one, tup_two, tup_three, (beq_iff_eq.2 fk1), (beq_iff_eq.2 (Eq.symm fk1)), (Eq.symm fk1), fk2, (beq_eq_false_iff_ne.2 fk2), (beq_eq_false_iff_ne.2 (Ne.symm fk2)), fk3, (beq_eq_false_iff_ne.2 fk3), (beq_eq_false_iff_ne.2 (Ne.symm fk3)), (beq_iff_eq.2 fk7), (beq_iff_eq.2 (Eq.symm fk7)), (Eq.symm fk7), fk8, (decide_eq_false fk8), fk10, (decide_eq_true fk10)] <;> omega
              have e1 := md_unfit (by omega) hc0 e3 (by omega)
              exact ⟨by rw [tup_two, mdV, e1.1, e1.2], S12.nil⟩
            · skip
              refine J.head (.bool false) (congrArg Value.bool (decide_eq_false fk10)) ?_
              refine J.run 6 K51_27 [(107, .int .i64 (IntKind.wrap .i64 q))] w12 (by kernel_rfl) ?_
              refine J.head (.int .i64 q) (congrArg (Value.int .i64) (IntWalk.i64_in _ (by omega))) ?_
              refine J.run 3 K51_28 [(9, .int .i64 0), (8, .int .i64 q)] w12 (by kernel_rfl) ?_
              refine J.ret Tryd.f51 [.int .i64 q, .int .i64 0] Tryd.func51 ⟨by kernel_rfl, by kernel_rfl, trivial⟩ ?_
              refine hR _ _ ?_
              have hc0 : c ≠ 0 := by omega
              subst hd
              have e0 := md_core2 (a := a) (b := b) (c := c) (mode := mode) (q := q) (r := r) (m := false) hc0 (by omega) (by omega) (by omega) (by omega) (by omega) (.inr ⟨rfl, by omega⟩)
              have e3 : mulDivR a b c mode = q := by rw [e0]; simp [rndB, tup_one, tup_two, tup_three, (beq_iff_eq.2 fk1), (beq_iff_eq.2 (Eq.symm fk1)), (Eq.symm fk1), fk2, (beq_eq_false_iff_ne.2 fk2), (beq_eq_false_iff_ne.2 (Ne.symm fk2)), fk3, (beq_eq_false_iff_ne.2 fk3), (beq_eq_false_iff_ne.2 (Ne.symm fk3)), (beq_iff_eq.2 fk7), (beq_iff_eq.2 (Eq.symm fk7)), (Eq.symm fk7), fk8, (decide_eq_false fk8), fk10, (decide_eq_false fk10)] <;> omega
              have e1 := md_fit (by omega) hc0 e3 (by omega)
              exact ⟨by rw [tup_two, mdV, e1.1, e1.2], S12.nil⟩
        · skip
          refine J.head (.bool true) (congrArg Value.bool (bne_iff_ne.2 fk7)) ?_
          refine J.run 8 K51_29 [(42, .bool (!((!((decide (a < 0)) == (decide (b < 0)))) == (decide (c < 0))))), (34, .bool true), (0, .int .i64 a), (1, .int .i64 b), (2, .int .i64 c), (3, .int .i64 mode)] w (by kernel_rfl) ?_
          obtain ⟨m, hm⟩ : ∃ x : Bool, x = (!((!((decide (a < 0)) == (decide (b < 0)))) == (decide (c < 0)))) := ⟨_, rfl⟩
          refine J.head (.bool m) (congrArg Value.bool hm.symm) ?_
          have hm2 : m = negB a b c := hm
          refine J.run 6 K51_30 [(44, .int .i64 c), (10, .bool m), (0, .int .i64 a), (1, .int .i64 b), (3, .int .i64 mode)] w (by kernel_rfl) ?_
          have := mag_le c (by omega)
          refine J.callF 45 61 #[.int .i64 c] hb61 (by kernel_rfl) (size_any c _ (by omega)) ?_
          rintro _ w13 ⟨rfl, T13⟩
          have S13 : Sep w [] w13 := S0.trans T13
          clear T13
          obtain ⟨d, hd⟩ : ∃ x : Int, x = magF c := ⟨_, rfl⟩
          refine J.head (.int .u64 d) (congrArg (Value.int .u64) hd.symm) ?_
          refine J.run 5 K51_31 [(47, .int .i64 a), (11, .int .u64 d), (10, .bool m), (1, .int .i64 b), (3, .int .i64 mode)] w13 (by kernel_rfl) ?_
          have := mag_le a (by omega)
          refine J.callF 48 61 #[.int .i64 a] hb61 (by kernel_rfl) (size_any a _ (by omega)) ?_
          rintro _ w14 ⟨rfl, T14⟩
          have S14 : Sep w [] w14 := S13.trans T14
          clear T14 S13
          obtain ⟨ma, hma⟩ : ∃ x : Int, x = magF a := ⟨_, rfl⟩
          refine J.head (.int .u64 ma) (congrArg (Value.int .u64) hma.symm) ?_
          refine J.run 1 K51_32 [(49, .int .i64 b), (48, .int .u64 ma), (11, .int .u64 d), (10, .bool m), (3, .int .i64 mode)] w14 (by kernel_rfl) ?_
          have := mag_le b (by omega)
          refine J.callF 50 61 #[.int .i64 b] hb61 (by kernel_rfl) (size_any b _ (by omega)) ?_
          rintro _ w15 ⟨rfl, T15⟩
          have S15 : Sep w [] w15 := S14.trans T15
          clear T15 S14
          obtain ⟨mb, hmb⟩ : ∃ x : Int, x = magF b := ⟨_, rfl⟩
          refine J.head (.int .u64 mb) (congrArg (Value.int .u64) hmb.symm) ?_
          have hPb0 : 0 ≤ magF a * magF b := Int.mul_nonneg (by unfold magF; omega) (by unfold magF; omega)
          have hPb : 0 ≤ magF a * magF b ∧ magF a * magF b = ma * mb := ⟨hPb0, by rw [hma, hmb]⟩
          have hmx := mul_max (x := ma) (y := mb) (by omega) (by omega)
          refine J.callF 51 67 #[.int .u64 ma, .int .u64 mb] hb67 (by kernel_rfl) (times_any ma mb _ (by omega) (by omega)) ?_
          rintro _ w16 ⟨rfl, T16⟩
          have S16 : Sep w [] w16 := S15.trans T16
          clear T16 S15
          refine J.run 1 K51_33 [(52, .int .u64 d), (51, .agg #[.int .u64 (ma * mb / 18446744073709551616), .int .u64 (ma * mb % 18446744073709551616)]), (11, .int .u64 d), (10, .bool m), (3, .int .i64 mode)] w16 (by kernel_rfl) ?_
          by_cases fk11 : d ≤ (ma * mb / 18446744073709551616)
          · skip
            refine J.callF 53 66 #[.agg #[.int .u64 (ma * mb / 18446744073709551616), .int .u64 (ma * mb % 18446744073709551616)], .int .u64 d] hb66 (by kernel_rfl) (over_any (ma * mb / 18446744073709551616) (ma * mb % 18446744073709551616) d _ (by omega) (by omega) (by omega)) ?_
            rintro _ w17 ⟨rfl, T17⟩
            have S17 : Sep w [] w17 := S16.trans T17
            clear T17 S16
            refine J.head (.tuple #[.int .u64 0, .int .u64 0, .bool false]) (by first | (simp only [overV, fk11, reduceCtorEq, ↓reduceIte]; done) | simp [overV, fk11]) ?_
            refine J.run 20 K51_34 [(9, .int .i64 9), (8, .int .i64 0)] w17 (by kernel_rfl) ?_
            refine J.ret Tryd.f51 [.int .i64 0, .int .i64 9] Tryd.func51 ⟨by kernel_rfl, by kernel_rfl, trivial⟩ ?_
            refine hR _ _ ?_
            have hc0 : c ≠ 0 := by omega
            have e1 := md_big (a := a) (b := b) (mode := mode) (by omega) hc0 hPb0 (by omega)
            exact ⟨by rw [tup_two, mdV, e1.1, e1.2], S17.nil⟩
          · skip
            refine J.callF 53 66 #[.agg #[.int .u64 (ma * mb / 18446744073709551616), .int .u64 (ma * mb % 18446744073709551616)], .int .u64 d] hb66 (by kernel_rfl) (over_any (ma * mb / 18446744073709551616) (ma * mb % 18446744073709551616) d _ (by omega) (by omega) (by omega)) ?_
            rintro _ w18 ⟨rfl, T18⟩
            have S18 : Sep w [] w18 := S16.trans T18
            clear T18 S16
            refine J.head (.tuple #[.int .u64 (((ma * mb / 18446744073709551616) * 18446744073709551616 + (ma * mb % 18446744073709551616)) / d), .int .u64 (((ma * mb / 18446744073709551616) * 18446744073709551616 + (ma * mb % 18446744073709551616)) % d), .bool true]) (by first | (simp only [overV, fk11, reduceCtorEq, ↓reduceIte]; done) | simp [overV, fk11]) ?_
            refine J.run 2 K51_35 [(54, .int .u64 (((ma * mb / 18446744073709551616) * 18446744073709551616 + (ma * mb % 18446744073709551616)) / d)), (46, .tuple #[.int .u64 (((ma * mb / 18446744073709551616) * 18446744073709551616 + (ma * mb % 18446744073709551616)) / d), .int .u64 (((ma * mb / 18446744073709551616) * 18446744073709551616 + (ma * mb % 18446744073709551616)) % d), .bool true]), (11, .int .u64 d), (10, .bool m), (3, .int .i64 mode)] w18 (by kernel_rfl) ?_
            obtain ⟨q, hq⟩ : ∃ x : Int, x = ((ma * mb / 18446744073709551616) * 18446744073709551616 + (ma * mb % 18446744073709551616)) / d := ⟨_, rfl⟩
            refine J.head (.int .u64 q) (congrArg (Value.int .u64) hq.symm) ?_
            have hq5 := q_top hq (by omega) (by omega)
            refine J.run 1 K51_36 [(55, .int .u64 (((ma * mb / 18446744073709551616) * 18446744073709551616 + (ma * mb % 18446744073709551616)) % d)), (54, .int .u64 q), (46, .tuple #[.int .u64 (((ma * mb / 18446744073709551616) * 18446744073709551616 + (ma * mb % 18446744073709551616)) / d), .int .u64 (((ma * mb / 18446744073709551616) * 18446744073709551616 + (ma * mb % 18446744073709551616)) % d), .bool true]), (11, .int .u64 d), (10, .bool m), (3, .int .i64 mode)] w18 (by kernel_rfl) ?_
            obtain ⟨r, hr⟩ : ∃ x : Int, x = ((ma * mb / 18446744073709551616) * 18446744073709551616 + (ma * mb % 18446744073709551616)) % d := ⟨_, rfl⟩
            refine J.head (.int .u64 r) (congrArg (Value.int .u64) hr.symm) ?_
            obtain ⟨hq1, hq2, hq3, hq4⟩ := qr_facts hq hr (by omega) (by omega)
            have hq6 := q_le (q := q) (d := d) hq4 (by omega)
            have hz : (a = 0 ∨ b = 0) → ma * mb = 0 := fun h => by rw [← hPb.2]; exact md_zero h
            refine J.run 28 K51_37 [(60, .bool (mode == 1)), (59, .int .i64 mode), (15, .bool false), (13, .int .u64 r), (12, .int .u64 q), (11, .int .u64 d), (10, .bool m)] w18 (by kernel_rfl) ?_
            refine J.head (.bool true) (congrArg Value.bool (beq_iff_eq.2 fk1)) ?_
            refine J.run 4 K51_38 [(63, .bool m), (13, .int .u64 r), (12, .int .u64 q), (10, .bool m)] w18 (by kernel_rfl) ?_
            rcases Bool.eq_false_or_eq_true m with fk13 | fk13
            · skip
              refine J.head (.bool true) (congrArg Value.bool fk13) ?_
              refine J.run 11 K51_39 [(93, .bool (decide (r > 0))), (12, .int .u64 q), (10, .bool m)] w18 (by kernel_rfl) ?_
              by_cases fk14 : r > 0
              · skip
                refine J.head (.bool true) (congrArg Value.bool (decide_eq_true fk14)) ?_
                refine J.run 7 K51_40 [(95, .bool (q == 18446744073709551615)), (12, .int .u64 q), (10, .bool m)] w18 (by kernel_rfl) ?_
                by_cases fk15 : q = 18446744073709551615
                · skip
                  refine J.head (.bool true) (congrArg Value.bool (beq_iff_eq.2 fk15)) ?_
                  refine J.run 6 K51_41 [(9, .int .i64 9), (8, .int .i64 0)] w18 (by kernel_rfl) ?_
                  refine J.ret Tryd.f51 [.int .i64 0, .int .i64 9] Tryd.func51 ⟨by kernel_rfl, by kernel_rfl, trivial⟩ ?_
                  refine hR _ _ ?_
                  have hc0 : c ≠ 0 := by omega
                  subst hd
                  have e0 := md_core2 (a := a) (b := b) (c := c) (mode := mode) (q := q) (r := r) (m := m) hc0 (by omega) (by omega) (by omega) (by omega) (by omega) (.inl hm2)
                  have e3 : mulDivR a b c mode = -(q + 1) := by rw [e0]; (try simp only [rndB, tup_one, tup_two, tup_three, (beq_iff_eq.2 fk1), (beq_iff_eq.2 (Eq.symm fk1)), (Eq.symm fk1), fk2, (beq_eq_false_iff_ne.2 fk2), (beq_eq_false_iff_ne.2 (Ne.symm fk2)), fk3, (beq_eq_false_iff_ne.2 fk3), (beq_eq_false_iff_ne.2 (Ne.symm fk3)), fk7, (beq_eq_false_iff_ne.2 fk7), (beq_eq_false_iff_ne.2 (Ne.symm fk7)), fk11, (decide_eq_false fk11), fk14, (decide_eq_true fk14), (beq_iff_eq.2 fk15), (beq_iff_eq.2 (Eq.symm fk15)), (Eq.symm fk15)]) <;> simp [rndB, tup_one, tup_two, tup_three, (beq_iff_eq.2 fk1), (beq_iff_eq.2 (Eq.symm fk1)), (Eq.symm fk1), fk2, (beq_eq_false_iff_ne.2 fk2), (beq_eq_false_iff_ne.2 (Ne.symm fk2)), fk3, (beq_eq_false_iff_ne.2 fk3), (beq_eq_false_iff_ne.2 (Ne.symm fk3)), fk7, (beq_eq_false_iff_ne.2 fk7), (beq_eq_false_iff_ne.2 (Ne.symm fk7)), fk11, (decide_eq_false fk11), fk14, (decide_eq_true fk14), (beq_iff_eq.2 fk15), (beq_iff_eq.2 (Eq.symm fk15)), (Eq.symm fk15), fk13] <;> omega
                  have e1 := md_unfit (by omega) hc0 e3 (by omega)
                  exact ⟨by rw [tup_two, mdV, e1.1, e1.2], S18.nil⟩
                · skip
                  refine J.head (.bool false) (congrArg Value.bool (beq_eq_false_iff_ne.2 fk15)) ?_
                  refine J.run 5 K51_42 [(97, .int .u64 (IntKind.wrap .u64 (q + 1))), (10, .bool m)] w18 (by kernel_rfl) ?_
                  refine J.head (.int .u64 (q + 1)) (congrArg (Value.int .u64) (IntWalk.u64_in _ (by omega))) ?_
                  refine J.run 7 K51_43 [(98, .bool m), (12, .int .u64 (q + 1))] w18 (by kernel_rfl) ?_
                  refine J.head (.bool true) (congrArg Value.bool fk13) ?_
                  refine J.run 7 K51_44 [(100, .bool (decide ((q + 1) > 9223372036854775808))), (12, .int .u64 (q + 1))] w18 (by kernel_rfl) ?_
                  by_cases fk17 : (q + 1) > 9223372036854775808
                  · skip
                    refine J.head (.bool true) (congrArg Value.bool (decide_eq_true fk17)) ?_
                    refine J.run 6 K51_45 [(9, .int .i64 9), (8, .int .i64 0)] w18 (by kernel_rfl) ?_
                    refine J.ret Tryd.f51 [.int .i64 0, .int .i64 9] Tryd.func51 ⟨by kernel_rfl, by kernel_rfl, trivial⟩ ?_
                    refine hR _ _ ?_
                    have hc0 : c ≠ 0 := by omega
                    subst hd
                    have e0 := md_core2 (a := a) (b := b) (c := c) (mode := mode) (q := q) (r := r) (m := m) hc0 (by omega) (by omega) (by omega) (by omega) (by omega) (.inl hm2)
                    have e3 : mulDivR a b c mode = -(q + 1) := by rw [e0]; (try simp only [rndB, tup_one, tup_two, tup_three, (beq_iff_eq.2 fk1), (beq_iff_eq.2 (Eq.symm fk1)), (Eq.symm fk1), fk2, (beq_eq_false_iff_ne.2 fk2), (beq_eq_false_iff_ne.2 (Ne.symm fk2)), fk3, (beq_eq_false_iff_ne.2 fk3), (beq_eq_false_iff_ne.2 (Ne.symm fk3)), fk7, (beq_eq_false_iff_ne.2 fk7), (beq_eq_false_iff_ne.2 (Ne.symm fk7)), fk11, (decide_eq_false fk11), fk14, (decide_eq_true fk14), fk15, (beq_eq_false_iff_ne.2 fk15), (beq_eq_false_iff_ne.2 (Ne.symm fk15)), fk17, (decide_eq_true fk17)]) <;> simp [rndB, tup_one, tup_two, tup_three, (beq_iff_eq.2 fk1), (beq_iff_eq.2 (Eq.symm fk1)), (Eq.symm fk1), fk2, (beq_eq_false_iff_ne.2 fk2), (beq_eq_false_iff_ne.2 (Ne.symm fk2)), fk3, (beq_eq_false_iff_ne.2 fk3), (beq_eq_false_iff_ne.2 (Ne.symm fk3)), fk7, (beq_eq_false_iff_ne.2 fk7), (beq_eq_false_iff_ne.2 (Ne.symm fk7)), fk11, (decide_eq_false fk11), fk14, (decide_eq_true fk14), fk15, (beq_eq_false_iff_ne.2 fk15), (beq_eq_false_iff_ne.2 (Ne.symm fk15)), fk17, (decide_eq_true fk17), fk13] <;> omega
                    have e1 := md_unfit (by omega) hc0 e3 (by omega)
                    exact ⟨by rw [tup_two, mdV, e1.1, e1.2], S18.nil⟩
                  · skip
                    refine J.head (.bool false) (congrArg Value.bool (decide_eq_false fk17)) ?_
                    refine J.run 7 K51_46 [(103, .int .i64 (IntKind.wrap .i64 (IntKind.wrap .u64 (0 - (q + 1)))))] w18 (by kernel_rfl) ?_
                    refine J.head (.int .i64 (-(q + 1))) (congrArg (Value.int .i64) (neg_conv (by omega))) ?_
                    refine J.run 3 K51_47 [(9, .int .i64 0), (8, .int .i64 (-(q + 1)))] w18 (by kernel_rfl) ?_
                    refine J.ret Tryd.f51 [.int .i64 (-(q + 1)), .int .i64 0] Tryd.func51 ⟨by kernel_rfl, by kernel_rfl, trivial⟩ ?_
                    refine hR _ _ ?_
                    have hc0 : c ≠ 0 := by omega
                    subst hd
                    have e0 := md_core2 (a := a) (b := b) (c := c) (mode := mode) (q := q) (r := r) (m := m) hc0 (by omega) (by omega) (by omega) (by omega) (by omega) (.inl hm2)
                    have e3 : mulDivR a b c mode = -(q + 1) := by rw [e0]; (try simp only [rndB, tup_one, tup_two, tup_three, (beq_iff_eq.2 fk1), (beq_iff_eq.2 (Eq.symm fk1)), (Eq.symm fk1), fk2, (beq_eq_false_iff_ne.2 fk2), (beq_eq_false_iff_ne.2 (Ne.symm fk2)), fk3, (beq_eq_false_iff_ne.2 fk3), (beq_eq_false_iff_ne.2 (Ne.symm fk3)), fk7, (beq_eq_false_iff_ne.2 fk7), (beq_eq_false_iff_ne.2 (Ne.symm fk7)), fk11, (decide_eq_false fk11), fk14, (decide_eq_true fk14), fk15, (beq_eq_false_iff_ne.2 fk15), (beq_eq_false_iff_ne.2 (Ne.symm fk15)), fk17, (decide_eq_false fk17)]) <;> simp [rndB, tup_one, tup_two, tup_three, (beq_iff_eq.2 fk1), (beq_iff_eq.2 (Eq.symm fk1)), (Eq.symm fk1), fk2, (beq_eq_false_iff_ne.2 fk2), (beq_eq_false_iff_ne.2 (Ne.symm fk2)), fk3, (beq_eq_false_iff_ne.2 fk3), (beq_eq_false_iff_ne.2 (Ne.symm fk3)), fk7, (beq_eq_false_iff_ne.2 fk7), (beq_eq_false_iff_ne.2 (Ne.symm fk7)), fk11, (decide_eq_false fk11), fk14, (decide_eq_true fk14), fk15, (beq_eq_false_iff_ne.2 fk15), (beq_eq_false_iff_ne.2 (Ne.symm fk15)), fk17, (decide_eq_false fk17), fk13] <;> omega
                    have e1 := md_fit (by omega) hc0 e3 (by omega)
                    exact ⟨by rw [tup_two, mdV, e1.1, e1.2], S18.nil⟩
              · skip
                refine J.head (.bool false) (congrArg Value.bool (decide_eq_false fk14)) ?_
                refine J.run 7 K51_48 [(98, .bool m), (12, .int .u64 q)] w18 (by kernel_rfl) ?_
                refine J.head (.bool true) (congrArg Value.bool fk13) ?_
                refine J.run 7 K51_49 [(100, .bool (decide (q > 9223372036854775808))), (12, .int .u64 q)] w18 (by kernel_rfl) ?_
                by_cases fk19 : q > 9223372036854775808
                · skip
                  refine J.head (.bool true) (congrArg Value.bool (decide_eq_true fk19)) ?_
                  refine J.run 6 K51_50 [(9, .int .i64 9), (8, .int .i64 0)] w18 (by kernel_rfl) ?_
                  refine J.ret Tryd.f51 [.int .i64 0, .int .i64 9] Tryd.func51 ⟨by kernel_rfl, by kernel_rfl, trivial⟩ ?_
                  refine hR _ _ ?_
                  have hc0 : c ≠ 0 := by omega
                  subst hd
                  have e0 := md_core2 (a := a) (b := b) (c := c) (mode := mode) (q := q) (r := r) (m := m) hc0 (by omega) (by omega) (by omega) (by omega) (by omega) (.inl hm2)
                  have e3 : mulDivR a b c mode = -(q) := by rw [e0]; (try simp only [rndB, tup_one, tup_two, tup_three, (beq_iff_eq.2 fk1), (beq_iff_eq.2 (Eq.symm fk1)), (Eq.symm fk1), fk2, (beq_eq_false_iff_ne.2 fk2), (beq_eq_false_iff_ne.2 (Ne.symm fk2)), fk3, (beq_eq_false_iff_ne.2 fk3), (beq_eq_false_iff_ne.2 (Ne.symm fk3)), fk7, (beq_eq_false_iff_ne.2 fk7), (beq_eq_false_iff_ne.2 (Ne.symm fk7)), fk11, (decide_eq_false fk11), fk14, (decide_eq_false fk14), fk19, (decide_eq_true fk19)]) <;> simp [rndB, tup_one, tup_two, tup_three, (beq_iff_eq.2 fk1), (beq_iff_eq.2 (Eq.symm fk1)), (Eq.symm fk1), fk2, (beq_eq_false_iff_ne.2 fk2), (beq_eq_false_iff_ne.2 (Ne.symm fk2)), fk3, (beq_eq_false_iff_ne.2 fk3), (beq_eq_false_iff_ne.2 (Ne.symm fk3)), fk7, (beq_eq_false_iff_ne.2 fk7), (beq_eq_false_iff_ne.2 (Ne.symm fk7)), fk11, (decide_eq_false fk11), fk14, (decide_eq_false fk14), fk19, (decide_eq_true fk19), fk13] <;> omega
                  have e1 := md_unfit (by omega) hc0 e3 (by omega)
                  exact ⟨by rw [tup_two, mdV, e1.1, e1.2], S18.nil⟩
                · skip
                  refine J.head (.bool false) (congrArg Value.bool (decide_eq_false fk19)) ?_
                  refine J.run 7 K51_51 [(103, .int .i64 (IntKind.wrap .i64 (IntKind.wrap .u64 (0 - q))))] w18 (by kernel_rfl) ?_
                  refine J.head (.int .i64 (-q)) (congrArg (Value.int .i64) (neg_conv (by omega))) ?_
                  refine J.run 3 K51_52 [(9, .int .i64 0), (8, .int .i64 (-q))] w18 (by kernel_rfl) ?_
                  refine J.ret Tryd.f51 [.int .i64 (-q), .int .i64 0] Tryd.func51 ⟨by kernel_rfl, by kernel_rfl, trivial⟩ ?_
                  refine hR _ _ ?_
                  have hc0 : c ≠ 0 := by omega
                  subst hd
                  have e0 := md_core2 (a := a) (b := b) (c := c) (mode := mode) (q := q) (r := r) (m := m) hc0 (by omega) (by omega) (by omega) (by omega) (by omega) (.inl hm2)
                  have e3 : mulDivR a b c mode = -q := by rw [e0]; (try simp only [rndB, tup_one, tup_two, tup_three, (beq_iff_eq.2 fk1), (beq_iff_eq.2 (Eq.symm fk1)), (Eq.symm fk1), fk2, (beq_eq_false_iff_ne.2 fk2), (beq_eq_false_iff_ne.2 (Ne.symm fk2)), fk3, (beq_eq_false_iff_ne.2 fk3), (beq_eq_false_iff_ne.2 (Ne.symm fk3)), fk7, (beq_eq_false_iff_ne.2 fk7), (beq_eq_false_iff_ne.2 (Ne.symm fk7)), fk11, (decide_eq_false fk11), fk14, (decide_eq_false fk14), fk19, (decide_eq_false fk19)]) <;> simp [rndB, tup_one, tup_two, tup_three, (beq_iff_eq.2 fk1), (beq_iff_eq.2 (Eq.symm fk1)), (Eq.symm fk1), fk2, (beq_eq_false_iff_ne.2 fk2), (beq_eq_false_iff_ne.2 (Ne.symm fk2)), fk3, (beq_eq_false_iff_ne.2 fk3), (beq_eq_false_iff_ne.2 (Ne.symm fk3)), fk7, (beq_eq_false_iff_ne.2 fk7), (beq_eq_false_iff_ne.2 (Ne.symm fk7)), fk11, (decide_eq_false fk11), fk14, (decide_eq_false fk14), fk19, (decide_eq_false fk19), fk13] <;> omega
                  have e1 := md_fit (by omega) hc0 e3 (by omega)
                  exact ⟨by rw [tup_two, mdV, e1.1, e1.2], S18.nil⟩
            · skip
              refine J.head (.bool false) (congrArg Value.bool fk13) ?_
              refine J.run 18 K51_53 [(98, .bool m), (12, .int .u64 q)] w18 (by kernel_rfl) ?_
              refine J.head (.bool false) (congrArg Value.bool fk13) ?_
              refine J.run 8 K51_54 [(105, .bool (decide (q ≥ 9223372036854775808))), (12, .int .u64 q)] w18 (by kernel_rfl) ?_
              by_cases fk21 : q ≥ 9223372036854775808
              · skip
                refine J.head (.bool true) (congrArg Value.bool (decide_eq_true fk21)) ?_
                refine J.run 6 K51_55 [(9, .int .i64 9), (8, .int .i64 0)] w18 (by kernel_rfl) ?_
                refine J.ret Tryd.f51 [.int .i64 0, .int .i64 9] Tryd.func51 ⟨by kernel_rfl, by kernel_rfl, trivial⟩ ?_
                refine hR _ _ ?_
                have hc0 : c ≠ 0 := by omega
                subst hd
                have e0 := md_core2 (a := a) (b := b) (c := c) (mode := mode) (q := q) (r := r) (m := m) hc0 (by omega) (by omega) (by omega) (by omega) (by omega) (.inl hm2)
                have e3 : mulDivR a b c mode = q := by rw [e0]; (try simp only [rndB, tup_one, tup_two, tup_three, (beq_iff_eq.2 fk1), (beq_iff_eq.2 (Eq.symm fk1)), (Eq.symm fk1), fk2, (beq_eq_false_iff_ne.2 fk2), (beq_eq_false_iff_ne.2 (Ne.symm fk2)), fk3, (beq_eq_false_iff_ne.2 fk3), (beq_eq_false_iff_ne.2 (Ne.symm fk3)), fk7, (beq_eq_false_iff_ne.2 fk7), (beq_eq_false_iff_ne.2 (Ne.symm fk7)), fk11, (decide_eq_false fk11), fk21, (decide_eq_true fk21)]) <;> simp [rndB, tup_one, tup_two, tup_three, (beq_iff_eq.2 fk1), (beq_iff_eq.2 (Eq.symm fk1)), (Eq.symm fk1), fk2, (beq_eq_false_iff_ne.2 fk2), (beq_eq_false_iff_ne.2 (Ne.symm fk2)), fk3, (beq_eq_false_iff_ne.2 fk3), (beq_eq_false_iff_ne.2 (Ne.symm fk3)), fk7, (beq_eq_false_iff_ne.2 fk7), (beq_eq_false_iff_ne.2 (Ne.symm fk7)), fk11, (decide_eq_false fk11), fk21, (decide_eq_true fk21), fk13] <;> omega
                have e1 := md_unfit (by omega) hc0 e3 (by omega)
                exact ⟨by rw [tup_two, mdV, e1.1, e1.2], S18.nil⟩
              · skip
                refine J.head (.bool false) (congrArg Value.bool (decide_eq_false fk21)) ?_
                refine J.run 6 K51_56 [(107, .int .i64 (IntKind.wrap .i64 q))] w18 (by kernel_rfl) ?_
                refine J.head (.int .i64 q) (congrArg (Value.int .i64) (IntWalk.i64_in _ (by omega))) ?_
                refine J.run 3 K51_57 [(9, .int .i64 0), (8, .int .i64 q)] w18 (by kernel_rfl) ?_
                refine J.ret Tryd.f51 [.int .i64 q, .int .i64 0] Tryd.func51 ⟨by kernel_rfl, by kernel_rfl, trivial⟩ ?_
                refine hR _ _ ?_
                have hc0 : c ≠ 0 := by omega
                subst hd
                have e0 := md_core2 (a := a) (b := b) (c := c) (mode := mode) (q := q) (r := r) (m := m) hc0 (by omega) (by omega) (by omega) (by omega) (by omega) (.inl hm2)
                have e3 : mulDivR a b c mode = q := by rw [e0]; (try simp only [rndB, tup_one, tup_two, tup_three, (beq_iff_eq.2 fk1), (beq_iff_eq.2 (Eq.symm fk1)), (Eq.symm fk1), fk2, (beq_eq_false_iff_ne.2 fk2), (beq_eq_false_iff_ne.2 (Ne.symm fk2)), fk3, (beq_eq_false_iff_ne.2 fk3), (beq_eq_false_iff_ne.2 (Ne.symm fk3)), fk7, (beq_eq_false_iff_ne.2 fk7), (beq_eq_false_iff_ne.2 (Ne.symm fk7)), fk11, (decide_eq_false fk11), fk21, (decide_eq_false fk21)]) <;> simp [rndB, tup_one, tup_two, tup_three, (beq_iff_eq.2 fk1), (beq_iff_eq.2 (Eq.symm fk1)), (Eq.symm fk1), fk2, (beq_eq_false_iff_ne.2 fk2), (beq_eq_false_iff_ne.2 (Ne.symm fk2)), fk3, (beq_eq_false_iff_ne.2 fk3), (beq_eq_false_iff_ne.2 (Ne.symm fk3)), fk7, (beq_eq_false_iff_ne.2 fk7), (beq_eq_false_iff_ne.2 (Ne.symm fk7)), fk11, (decide_eq_false fk11), fk21, (decide_eq_false fk21), fk13] <;> omega
                have e1 := md_fit (by omega) hc0 e3 (by omega)
                exact ⟨by rw [tup_two, mdV, e1.1, e1.2], S18.nil⟩
  · skip
    refine J.head (.bool true) (congrArg Value.bool (bne_iff_ne.2 fk1)) ?_
    refine J.run 4 K51_58 [(22, .bool (mode != 2)), (0, .int .i64 a), (1, .int .i64 b), (2, .int .i64 c), (3, .int .i64 mode)] w (by kernel_rfl) ?_
    by_cases fk22 : mode = 2
    · skip
      refine J.head (.bool false) (congrArg Value.bool (bne_eq_false_iff_eq.2 fk22)) ?_
      refine J.run 12 K51_59 [(27, .bool (c == 0)), (0, .int .i64 a), (1, .int .i64 b), (2, .int .i64 c), (3, .int .i64 mode)] w (by kernel_rfl) ?_
      by_cases fk23 : c = 0
      · skip
        refine J.head (.bool true) (congrArg Value.bool (beq_iff_eq.2 fk23)) ?_
        refine J.run 6 K51_60 [(9, .int .i64 10), (8, .int .i64 0)] w (by kernel_rfl) ?_
        refine J.ret Tryd.f51 [.int .i64 0, .int .i64 10] Tryd.func51 ⟨by kernel_rfl, by kernel_rfl, trivial⟩ ?_
        refine hR _ _ ?_
        have e1 : mdX a b c mode = 0 ∧ mdE a b c mode = 10 := by unfold mdX mdE; rw [if_neg (by omega), if_pos (by omega), if_neg (by omega), if_pos (by omega)]; exact ⟨rfl, rfl⟩
        exact ⟨by rw [tup_two, mdV, e1.1, e1.2], S0.nil⟩
      · skip
        refine J.head (.bool false) (congrArg Value.bool (beq_eq_false_iff_ne.2 fk23)) ?_
        refine J.run 7 K51_61 [(30, .bool (a != 0)), (0, .int .i64 a), (1, .int .i64 b), (2, .int .i64 c), (3, .int .i64 mode)] w (by kernel_rfl) ?_
        by_cases fk24 : a = 0
        · skip
          refine J.head (.bool false) (congrArg Value.bool (bne_eq_false_iff_eq.2 fk24)) ?_
          refine J.run 18 K51_62 [(44, .int .i64 c), (10, .bool false), (0, .int .i64 a), (1, .int .i64 b), (3, .int .i64 mode)] w (by kernel_rfl) ?_
          have := mag_le c (by omega)
          refine J.callF 45 61 #[.int .i64 c] hb61 (by kernel_rfl) (size_any c _ (by omega)) ?_
          rintro _ w19 ⟨rfl, T19⟩
          have S19 : Sep w [] w19 := S0.trans T19
          clear T19
          obtain ⟨d, hd⟩ : ∃ x : Int, x = magF c := ⟨_, rfl⟩
          refine J.head (.int .u64 d) (congrArg (Value.int .u64) hd.symm) ?_
          refine J.run 5 K51_63 [(47, .int .i64 a), (11, .int .u64 d), (10, .bool false), (1, .int .i64 b), (3, .int .i64 mode)] w19 (by kernel_rfl) ?_
          have := mag_le a (by omega)
          refine J.callF 48 61 #[.int .i64 a] hb61 (by kernel_rfl) (size_any a _ (by omega)) ?_
          rintro _ w20 ⟨rfl, T20⟩
          have S20 : Sep w [] w20 := S19.trans T20
          clear T20 S19
          obtain ⟨ma, hma⟩ : ∃ x : Int, x = magF a := ⟨_, rfl⟩
          refine J.head (.int .u64 ma) (congrArg (Value.int .u64) hma.symm) ?_
          refine J.run 1 K51_64 [(49, .int .i64 b), (48, .int .u64 ma), (11, .int .u64 d), (10, .bool false), (3, .int .i64 mode)] w20 (by kernel_rfl) ?_
          have := mag_le b (by omega)
          refine J.callF 50 61 #[.int .i64 b] hb61 (by kernel_rfl) (size_any b _ (by omega)) ?_
          rintro _ w21 ⟨rfl, T21⟩
          have S21 : Sep w [] w21 := S20.trans T21
          clear T21 S20
          obtain ⟨mb, hmb⟩ : ∃ x : Int, x = magF b := ⟨_, rfl⟩
          refine J.head (.int .u64 mb) (congrArg (Value.int .u64) hmb.symm) ?_
          have hPb0 : 0 ≤ magF a * magF b := Int.mul_nonneg (by unfold magF; omega) (by unfold magF; omega)
          have hPb : 0 ≤ magF a * magF b ∧ magF a * magF b = ma * mb := ⟨hPb0, by rw [hma, hmb]⟩
          have hmx := mul_max (x := ma) (y := mb) (by omega) (by omega)
          refine J.callF 51 67 #[.int .u64 ma, .int .u64 mb] hb67 (by kernel_rfl) (times_any ma mb _ (by omega) (by omega)) ?_
          rintro _ w22 ⟨rfl, T22⟩
          have S22 : Sep w [] w22 := S21.trans T22
          clear T22 S21
          refine J.run 1 K51_65 [(52, .int .u64 d), (51, .agg #[.int .u64 (ma * mb / 18446744073709551616), .int .u64 (ma * mb % 18446744073709551616)]), (11, .int .u64 d), (10, .bool false), (3, .int .i64 mode)] w22 (by kernel_rfl) ?_
          by_cases fk25 : d ≤ (ma * mb / 18446744073709551616)
          · skip
            refine J.callF 53 66 #[.agg #[.int .u64 (ma * mb / 18446744073709551616), .int .u64 (ma * mb % 18446744073709551616)], .int .u64 d] hb66 (by kernel_rfl) (over_any (ma * mb / 18446744073709551616) (ma * mb % 18446744073709551616) d _ (by omega) (by omega) (by omega)) ?_
            rintro _ w23 ⟨rfl, T23⟩
            have S23 : Sep w [] w23 := S22.trans T23
            clear T23 S22
            refine J.head (.tuple #[.int .u64 0, .int .u64 0, .bool false]) (by first | (simp only [overV, fk25, reduceCtorEq, ↓reduceIte]; done) | simp [overV, fk25]) ?_
            refine J.run 20 K51_66 [(9, .int .i64 9), (8, .int .i64 0)] w23 (by kernel_rfl) ?_
            refine J.ret Tryd.f51 [.int .i64 0, .int .i64 9] Tryd.func51 ⟨by kernel_rfl, by kernel_rfl, trivial⟩ ?_
            refine hR _ _ ?_
            have hc0 : c ≠ 0 := by omega
            have e1 := md_big (a := a) (b := b) (mode := mode) (by omega) hc0 hPb0 (by omega)
            exact ⟨by rw [tup_two, mdV, e1.1, e1.2], S23.nil⟩
          · skip
            refine J.callF 53 66 #[.agg #[.int .u64 (ma * mb / 18446744073709551616), .int .u64 (ma * mb % 18446744073709551616)], .int .u64 d] hb66 (by kernel_rfl) (over_any (ma * mb / 18446744073709551616) (ma * mb % 18446744073709551616) d _ (by omega) (by omega) (by omega)) ?_
            rintro _ w24 ⟨rfl, T24⟩
            have S24 : Sep w [] w24 := S22.trans T24
            clear T24 S22
            refine J.head (.tuple #[.int .u64 (((ma * mb / 18446744073709551616) * 18446744073709551616 + (ma * mb % 18446744073709551616)) / d), .int .u64 (((ma * mb / 18446744073709551616) * 18446744073709551616 + (ma * mb % 18446744073709551616)) % d), .bool true]) (by first | (simp only [overV, fk25, reduceCtorEq, ↓reduceIte]; done) | simp [overV, fk25]) ?_
            refine J.run 2 K51_67 [(54, .int .u64 (((ma * mb / 18446744073709551616) * 18446744073709551616 + (ma * mb % 18446744073709551616)) / d)), (46, .tuple #[.int .u64 (((ma * mb / 18446744073709551616) * 18446744073709551616 + (ma * mb % 18446744073709551616)) / d), .int .u64 (((ma * mb / 18446744073709551616) * 18446744073709551616 + (ma * mb % 18446744073709551616)) % d), .bool true]), (11, .int .u64 d), (10, .bool false), (3, .int .i64 mode)] w24 (by kernel_rfl) ?_
            obtain ⟨q, hq⟩ : ∃ x : Int, x = ((ma * mb / 18446744073709551616) * 18446744073709551616 + (ma * mb % 18446744073709551616)) / d := ⟨_, rfl⟩
            refine J.head (.int .u64 q) (congrArg (Value.int .u64) hq.symm) ?_
            have hq5 := q_top hq (by omega) (by omega)
            refine J.run 1 K51_68 [(55, .int .u64 (((ma * mb / 18446744073709551616) * 18446744073709551616 + (ma * mb % 18446744073709551616)) % d)), (54, .int .u64 q), (46, .tuple #[.int .u64 (((ma * mb / 18446744073709551616) * 18446744073709551616 + (ma * mb % 18446744073709551616)) / d), .int .u64 (((ma * mb / 18446744073709551616) * 18446744073709551616 + (ma * mb % 18446744073709551616)) % d), .bool true]), (11, .int .u64 d), (10, .bool false), (3, .int .i64 mode)] w24 (by kernel_rfl) ?_
            obtain ⟨r, hr⟩ : ∃ x : Int, x = ((ma * mb / 18446744073709551616) * 18446744073709551616 + (ma * mb % 18446744073709551616)) % d := ⟨_, rfl⟩
            refine J.head (.int .u64 r) (congrArg (Value.int .u64) hr.symm) ?_
            obtain ⟨hq1, hq2, hq3, hq4⟩ := qr_facts hq hr (by omega) (by omega)
            have hq6 := q_le (q := q) (d := d) hq4 (by omega)
            have hz : (a = 0 ∨ b = 0) → ma * mb = 0 := fun h => by rw [← hPb.2]; exact md_zero h
            refine J.run 28 K51_69 [(60, .bool (mode == 1)), (59, .int .i64 mode), (15, .bool false), (13, .int .u64 r), (12, .int .u64 q), (11, .int .u64 d), (10, .bool false)] w24 (by kernel_rfl) ?_
            refine J.head (.bool false) (congrArg Value.bool (beq_eq_false_iff_ne.2 fk1)) ?_
            refine J.run 6 K51_70 [(67, .bool (mode == 2)), (59, .int .i64 mode), (15, .bool false), (13, .int .u64 r), (12, .int .u64 q), (11, .int .u64 d), (10, .bool false)] w24 (by kernel_rfl) ?_
            refine J.head (.bool true) (congrArg Value.bool (beq_iff_eq.2 fk22)) ?_
            refine J.run 16 K51_71 [(93, .bool (decide (r > 0))), (12, .int .u64 q), (10, .bool false)] w24 (by kernel_rfl) ?_
            by_cases fk28 : r > 0
            · skip
              refine J.head (.bool true) (congrArg Value.bool (decide_eq_true fk28)) ?_
              refine J.run 7 K51_72 [(95, .bool (q == 18446744073709551615)), (12, .int .u64 q), (10, .bool false)] w24 (by kernel_rfl) ?_
              by_cases fk29 : q = 18446744073709551615
              · skip
                refine J.head (.bool true) (congrArg Value.bool (beq_iff_eq.2 fk29)) ?_
                refine J.run 6 K51_73 [(9, .int .i64 9), (8, .int .i64 0)] w24 (by kernel_rfl) ?_
                refine J.ret Tryd.f51 [.int .i64 0, .int .i64 9] Tryd.func51 ⟨by kernel_rfl, by kernel_rfl, trivial⟩ ?_
                refine hR _ _ ?_
                have hc0 : c ≠ 0 := by omega
                subst hd
                have e0 := md_core2 (a := a) (b := b) (c := c) (mode := mode) (q := q) (r := r) (m := false) hc0 (by omega) (by omega) (by omega) (by omega) (by omega) (.inr ⟨rfl, by omega⟩)
                have e3 : mulDivR a b c mode = q + 1 := by rw [e0]; simp [rndB, tup_one, tup_two, tup_three, fk1, (beq_eq_false_iff_ne.2 fk1), (beq_eq_false_iff_ne.2 (Ne.symm fk1)), (beq_iff_eq.2 fk22), (beq_iff_eq.2 (Eq.symm fk22)), (Eq.symm fk22), fk23, (beq_eq_false_iff_ne.2 fk23), (beq_eq_false_iff_ne.2 (Ne.symm fk23)), (beq_iff_eq.2 fk24), (beq_iff_eq.2 (Eq.symm fk24)), (Eq.symm fk24), fk25, (decide_eq_false fk25), fk28, (decide_eq_true fk28), (beq_iff_eq.2 fk29), (beq_iff_eq.2 (Eq.symm fk29)), (Eq.symm fk29)] <;> omega
                have e1 := md_unfit (by omega) hc0 e3 (by omega)
                exact ⟨by rw [tup_two, mdV, e1.1, e1.2], S24.nil⟩
              · skip
                refine J.head (.bool false) (congrArg Value.bool (beq_eq_false_iff_ne.2 fk29)) ?_
                refine J.run 5 K51_74 [(97, .int .u64 (IntKind.wrap .u64 (q + 1))), (10, .bool false)] w24 (by kernel_rfl) ?_
                refine J.head (.int .u64 (q + 1)) (congrArg (Value.int .u64) (IntWalk.u64_in _ (by omega))) ?_
                refine J.run 15 K51_75 [(105, .bool (decide ((q + 1) ≥ 9223372036854775808))), (12, .int .u64 (q + 1))] w24 (by kernel_rfl) ?_
                by_cases fk30 : (q + 1) ≥ 9223372036854775808
                · skip
                  refine J.head (.bool true) (congrArg Value.bool (decide_eq_true fk30)) ?_
                  refine J.run 6 K51_76 [(9, .int .i64 9), (8, .int .i64 0)] w24 (by kernel_rfl) ?_
                  refine J.ret Tryd.f51 [.int .i64 0, .int .i64 9] Tryd.func51 ⟨by kernel_rfl, by kernel_rfl, trivial⟩ ?_
                  refine hR _ _ ?_
                  have hc0 : c ≠ 0 := by omega
                  subst hd
                  have e0 := md_core2 (a := a) (b := b) (c := c) (mode := mode) (q := q) (r := r) (m := false) hc0 (by omega) (by omega) (by omega) (by omega) (by omega) (.inr ⟨rfl, by omega⟩)
                  have e3 : mulDivR a b c mode = q + 1 := by rw [e0]; simp [rndB, tup_one, tup_two, tup_three, fk1, (beq_eq_false_iff_ne.2 fk1), (beq_eq_false_iff_ne.2 (Ne.symm fk1)), (beq_iff_eq.2 fk22), (beq_iff_eq.2 (Eq.symm fk22)), (Eq.symm fk22), fk23, (beq_eq_false_iff_ne.2 fk23), (beq_eq_false_iff_ne.2 (Ne.symm fk23)), (beq_iff_eq.2 fk24), (beq_iff_eq.2 (Eq.symm fk24)), (Eq.symm fk24), fk25, (decide_eq_false fk25), fk28, (decide_eq_true fk28), fk29, (beq_eq_false_iff_ne.2 fk29), (beq_eq_false_iff_ne.2 (Ne.symm fk29)), fk30, (decide_eq_true fk30)] <;> omega
                  have e1 := md_unfit (by omega) hc0 e3 (by omega)
                  exact ⟨by rw [tup_two, mdV, e1.1, e1.2], S24.nil⟩
                · skip
                  refine J.head (.bool false) (congrArg Value.bool (decide_eq_false fk30)) ?_
                  refine J.run 6 K51_77 [(107, .int .i64 (IntKind.wrap .i64 (q + 1)))] w24 (by kernel_rfl) ?_
                  refine J.head (.int .i64 (q + 1)) (congrArg (Value.int .i64) (IntWalk.i64_in _ (by omega))) ?_
                  refine J.run 3 K51_78 [(9, .int .i64 0), (8, .int .i64 (q + 1))] w24 (by kernel_rfl) ?_
                  refine J.ret Tryd.f51 [.int .i64 (q + 1), .int .i64 0] Tryd.func51 ⟨by kernel_rfl, by kernel_rfl, trivial⟩ ?_
                  refine hR _ _ ?_
                  have hc0 : c ≠ 0 := by omega
                  subst hd
                  have e0 := md_core2 (a := a) (b := b) (c := c) (mode := mode) (q := q) (r := r) (m := false) hc0 (by omega) (by omega) (by omega) (by omega) (by omega) (.inr ⟨rfl, by omega⟩)
                  have e3 : mulDivR a b c mode = q + 1 := by rw [e0]; simp [rndB, tup_one, tup_two, tup_three, fk1, (beq_eq_false_iff_ne.2 fk1), (beq_eq_false_iff_ne.2 (Ne.symm fk1)), (beq_iff_eq.2 fk22), (beq_iff_eq.2 (Eq.symm fk22)), (Eq.symm fk22), fk23, (beq_eq_false_iff_ne.2 fk23), (beq_eq_false_iff_ne.2 (Ne.symm fk23)), (beq_iff_eq.2 fk24), (beq_iff_eq.2 (Eq.symm fk24)), (Eq.symm fk24), fk25, (decide_eq_false fk25), fk28, (decide_eq_true fk28), fk29, (beq_eq_false_iff_ne.2 fk29), (beq_eq_false_iff_ne.2 (Ne.symm fk29)), fk30, (decide_eq_false fk30)] <;> omega
                  have e1 := md_fit (by omega) hc0 e3 (by omega)
                  exact ⟨by rw [tup_two, mdV, e1.1, e1.2], S24.nil⟩
            · skip
              refine J.head (.bool false) (congrArg Value.bool (decide_eq_false fk28)) ?_
              refine J.run 15 K51_79 [(105, .bool (decide (q ≥ 9223372036854775808))), (12, .int .u64 q)] w24 (by kernel_rfl) ?_
              by_cases fk31 : q ≥ 9223372036854775808
              · skip
                refine J.head (.bool true) (congrArg Value.bool (decide_eq_true fk31)) ?_
                refine J.run 6 K51_80 [(9, .int .i64 9), (8, .int .i64 0)] w24 (by kernel_rfl) ?_
                refine J.ret Tryd.f51 [.int .i64 0, .int .i64 9] Tryd.func51 ⟨by kernel_rfl, by kernel_rfl, trivial⟩ ?_
                refine hR _ _ ?_
                have hc0 : c ≠ 0 := by omega
                subst hd
                have e0 := md_core2 (a := a) (b := b) (c := c) (mode := mode) (q := q) (r := r) (m := false) hc0 (by omega) (by omega) (by omega) (by omega) (by omega) (.inr ⟨rfl, by omega⟩)
                have e3 : mulDivR a b c mode = q := by rw [e0]; simp [rndB, tup_one, tup_two, tup_three, fk1, (beq_eq_false_iff_ne.2 fk1), (beq_eq_false_iff_ne.2 (Ne.symm fk1)), (beq_iff_eq.2 fk22), (beq_iff_eq.2 (Eq.symm fk22)), (Eq.symm fk22), fk23, (beq_eq_false_iff_ne.2 fk23), (beq_eq_false_iff_ne.2 (Ne.symm fk23)), (beq_iff_eq.2 fk24), (beq_iff_eq.2 (Eq.symm fk24)), (Eq.symm fk24), fk25, (decide_eq_false fk25), fk28, (decide_eq_false fk28), fk31, (decide_eq_true fk31)] <;> omega
                have e1 := md_unfit (by omega) hc0 e3 (by omega)
                exact ⟨by rw [tup_two, mdV, e1.1, e1.2], S24.nil⟩
              · skip
                refine J.head (.bool false) (congrArg Value.bool (decide_eq_false fk31)) ?_
                refine J.run 6 K51_81 [(107, .int .i64 (IntKind.wrap .i64 q))] w24 (by kernel_rfl) ?_
                refine J.head (.int .i64 q) (congrArg (Value.int .i64) (IntWalk.i64_in _ (by omega))) ?_
                refine J.run 3 K51_82 [(9, .int .i64 0), (8, .int .i64 q)] w24 (by kernel_rfl) ?_
                refine J.ret Tryd.f51 [.int .i64 q, .int .i64 0] Tryd.func51 ⟨by kernel_rfl, by kernel_rfl, trivial⟩ ?_
                refine hR _ _ ?_
                have hc0 : c ≠ 0 := by omega
                subst hd
                have e0 := md_core2 (a := a) (b := b) (c := c) (mode := mode) (q := q) (r := r) (m := false) hc0 (by omega) (by omega) (by omega) (by omega) (by omega) (.inr ⟨rfl, by omega⟩)
                have e3 : mulDivR a b c mode = q := by rw [e0]; simp [rndB, tup_one, tup_two, tup_three, fk1, (beq_eq_false_iff_ne.2 fk1), (beq_eq_false_iff_ne.2 (Ne.symm fk1)), (beq_iff_eq.2 fk22), (beq_iff_eq.2 (Eq.symm fk22)), (Eq.symm fk22), fk23, (beq_eq_false_iff_ne.2 fk23), (beq_eq_false_iff_ne.2 (Ne.symm fk23)), (beq_iff_eq.2 fk24), (beq_iff_eq.2 (Eq.symm fk24)), (Eq.symm fk24), fk25, (decide_eq_false fk25), fk28, (decide_eq_false fk28), fk31, (decide_eq_false fk31)] <;> omega
                have e1 := md_fit (by omega) hc0 e3 (by omega)
                exact ⟨by rw [tup_two, mdV, e1.1, e1.2], S24.nil⟩
        · skip
          refine J.head (.bool true) (congrArg Value.bool (bne_iff_ne.2 fk24)) ?_
          refine J.run 4 K51_83 [(34, .bool (b != 0)), (0, .int .i64 a), (1, .int .i64 b), (2, .int .i64 c), (3, .int .i64 mode)] w (by kernel_rfl) ?_
          by_cases fk32 : b = 0
          · skip
            refine J.head (.bool false) (congrArg Value.bool (bne_eq_false_iff_eq.2 fk32)) ?_
            refine J.run 14 K51_84 [(44, .int .i64 c), (10, .bool false), (0, .int .i64 a), (1, .int .i64 b), (3, .int .i64 mode)] w (by kernel_rfl) ?_
            have := mag_le c (by omega)
            refine J.callF 45 61 #[.int .i64 c] hb61 (by kernel_rfl) (size_any c _ (by omega)) ?_
            rintro _ w25 ⟨rfl, T25⟩
            have S25 : Sep w [] w25 := S0.trans T25
            clear T25
            obtain ⟨d, hd⟩ : ∃ x : Int, x = magF c := ⟨_, rfl⟩
            refine J.head (.int .u64 d) (congrArg (Value.int .u64) hd.symm) ?_
            refine J.run 5 K51_85 [(47, .int .i64 a), (11, .int .u64 d), (10, .bool false), (1, .int .i64 b), (3, .int .i64 mode)] w25 (by kernel_rfl) ?_
            have := mag_le a (by omega)
            refine J.callF 48 61 #[.int .i64 a] hb61 (by kernel_rfl) (size_any a _ (by omega)) ?_
            rintro _ w26 ⟨rfl, T26⟩
            have S26 : Sep w [] w26 := S25.trans T26
            clear T26 S25
            obtain ⟨ma, hma⟩ : ∃ x : Int, x = magF a := ⟨_, rfl⟩
            refine J.head (.int .u64 ma) (congrArg (Value.int .u64) hma.symm) ?_
            refine J.run 1 K51_86 [(49, .int .i64 b), (48, .int .u64 ma), (11, .int .u64 d), (10, .bool false), (3, .int .i64 mode)] w26 (by kernel_rfl) ?_
            have := mag_le b (by omega)
            refine J.callF 50 61 #[.int .i64 b] hb61 (by kernel_rfl) (size_any b _ (by omega)) ?_
            rintro _ w27 ⟨rfl, T27⟩
            have S27 : Sep w [] w27 := S26.trans T27
            clear T27 S26
            obtain ⟨mb, hmb⟩ : ∃ x : Int, x = magF b := ⟨_, rfl⟩
            refine J.head (.int .u64 mb) (congrArg (Value.int .u64) hmb.symm) ?_
            have hPb0 : 0 ≤ magF a * magF b := Int.mul_nonneg (by unfold magF; omega) (by unfold magF; omega)
            have hPb : 0 ≤ magF a * magF b ∧ magF a * magF b = ma * mb := ⟨hPb0, by rw [hma, hmb]⟩
            have hmx := mul_max (x := ma) (y := mb) (by omega) (by omega)
            refine J.callF 51 67 #[.int .u64 ma, .int .u64 mb] hb67 (by kernel_rfl) (times_any ma mb _ (by omega) (by omega)) ?_
            rintro _ w28 ⟨rfl, T28⟩
            have S28 : Sep w [] w28 := S27.trans T28
            clear T28 S27
            refine J.run 1 K51_87 [(52, .int .u64 d), (51, .agg #[.int .u64 (ma * mb / 18446744073709551616), .int .u64 (ma * mb % 18446744073709551616)]), (11, .int .u64 d), (10, .bool false), (3, .int .i64 mode)] w28 (by kernel_rfl) ?_
            by_cases fk33 : d ≤ (ma * mb / 18446744073709551616)
            · skip
              refine J.callF 53 66 #[.agg #[.int .u64 (ma * mb / 18446744073709551616), .int .u64 (ma * mb % 18446744073709551616)], .int .u64 d] hb66 (by kernel_rfl) (over_any (ma * mb / 18446744073709551616) (ma * mb % 18446744073709551616) d _ (by omega) (by omega) (by omega)) ?_
              rintro _ w29 ⟨rfl, T29⟩
              have S29 : Sep w [] w29 := S28.trans T29
              clear T29 S28
              refine J.head (.tuple #[.int .u64 0, .int .u64 0, .bool false]) (by first | (simp only [overV, fk33, reduceCtorEq, ↓reduceIte]; done) | simp [overV, fk33]) ?_
              refine J.run 20 K51_88 [(9, .int .i64 9), (8, .int .i64 0)] w29 (by kernel_rfl) ?_
              refine J.ret Tryd.f51 [.int .i64 0, .int .i64 9] Tryd.func51 ⟨by kernel_rfl, by kernel_rfl, trivial⟩ ?_
              refine hR _ _ ?_
              have hc0 : c ≠ 0 := by omega
              have e1 := md_big (a := a) (b := b) (mode := mode) (by omega) hc0 hPb0 (by omega)
              exact ⟨by rw [tup_two, mdV, e1.1, e1.2], S29.nil⟩
            · skip
              refine J.callF 53 66 #[.agg #[.int .u64 (ma * mb / 18446744073709551616), .int .u64 (ma * mb % 18446744073709551616)], .int .u64 d] hb66 (by kernel_rfl) (over_any (ma * mb / 18446744073709551616) (ma * mb % 18446744073709551616) d _ (by omega) (by omega) (by omega)) ?_
              rintro _ w30 ⟨rfl, T30⟩
              have S30 : Sep w [] w30 := S28.trans T30
              clear T30 S28
              refine J.head (.tuple #[.int .u64 (((ma * mb / 18446744073709551616) * 18446744073709551616 + (ma * mb % 18446744073709551616)) / d), .int .u64 (((ma * mb / 18446744073709551616) * 18446744073709551616 + (ma * mb % 18446744073709551616)) % d), .bool true]) (by first | (simp only [overV, fk33, reduceCtorEq, ↓reduceIte]; done) | simp [overV, fk33]) ?_
              refine J.run 2 K51_89 [(54, .int .u64 (((ma * mb / 18446744073709551616) * 18446744073709551616 + (ma * mb % 18446744073709551616)) / d)), (46, .tuple #[.int .u64 (((ma * mb / 18446744073709551616) * 18446744073709551616 + (ma * mb % 18446744073709551616)) / d), .int .u64 (((ma * mb / 18446744073709551616) * 18446744073709551616 + (ma * mb % 18446744073709551616)) % d), .bool true]), (11, .int .u64 d), (10, .bool false), (3, .int .i64 mode)] w30 (by kernel_rfl) ?_
              obtain ⟨q, hq⟩ : ∃ x : Int, x = ((ma * mb / 18446744073709551616) * 18446744073709551616 + (ma * mb % 18446744073709551616)) / d := ⟨_, rfl⟩
              refine J.head (.int .u64 q) (congrArg (Value.int .u64) hq.symm) ?_
              have hq5 := q_top hq (by omega) (by omega)
              refine J.run 1 K51_90 [(55, .int .u64 (((ma * mb / 18446744073709551616) * 18446744073709551616 + (ma * mb % 18446744073709551616)) % d)), (54, .int .u64 q), (46, .tuple #[.int .u64 (((ma * mb / 18446744073709551616) * 18446744073709551616 + (ma * mb % 18446744073709551616)) / d), .int .u64 (((ma * mb / 18446744073709551616) * 18446744073709551616 + (ma * mb % 18446744073709551616)) % d), .bool true]), (11, .int .u64 d), (10, .bool false), (3, .int .i64 mode)] w30 (by kernel_rfl) ?_
              obtain ⟨r, hr⟩ : ∃ x : Int, x = ((ma * mb / 18446744073709551616) * 18446744073709551616 + (ma * mb % 18446744073709551616)) % d := ⟨_, rfl⟩
              refine J.head (.int .u64 r) (congrArg (Value.int .u64) hr.symm) ?_
              obtain ⟨hq1, hq2, hq3, hq4⟩ := qr_facts hq hr (by omega) (by omega)
              have hq6 := q_le (q := q) (d := d) hq4 (by omega)
              have hz : (a = 0 ∨ b = 0) → ma * mb = 0 := fun h => by rw [← hPb.2]; exact md_zero h
              refine J.run 28 K51_91 [(60, .bool (mode == 1)), (59, .int .i64 mode), (15, .bool false), (13, .int .u64 r), (12, .int .u64 q), (11, .int .u64 d), (10, .bool false)] w30 (by kernel_rfl) ?_
              refine J.head (.bool false) (congrArg Value.bool (beq_eq_false_iff_ne.2 fk1)) ?_
              refine J.run 6 K51_92 [(67, .bool (mode == 2)), (59, .int .i64 mode), (15, .bool false), (13, .int .u64 r), (12, .int .u64 q), (11, .int .u64 d), (10, .bool false)] w30 (by kernel_rfl) ?_
              refine J.head (.bool true) (congrArg Value.bool (beq_iff_eq.2 fk22)) ?_
              refine J.run 16 K51_93 [(93, .bool (decide (r > 0))), (12, .int .u64 q), (10, .bool false)] w30 (by kernel_rfl) ?_
              by_cases fk36 : r > 0
              · skip
                refine J.head (.bool true) (congrArg Value.bool (decide_eq_true fk36)) ?_
                refine J.run 7 K51_94 [(95, .bool (q == 18446744073709551615)), (12, .int .u64 q), (10, .bool false)] w30 (by kernel_rfl) ?_
                by_cases fk37 : q = 18446744073709551615
                · skip
                  refine J.head (.bool true) (congrArg Value.bool (beq_iff_eq.2 fk37)) ?_
                  refine J.run 6 K51_95 [(9, .int .i64 9), (8, .int .i64 0)] w30 (by kernel_rfl) ?_
                  refine J.ret Tryd.f51 [.int .i64 0, .int .i64 9] Tryd.func51 ⟨by kernel_rfl, by kernel_rfl, trivial⟩ ?_
                  refine hR _ _ ?_
                  have hc0 : c ≠ 0 := by omega
                  subst hd
                  have e0 := md_core2 (a := a) (b := b) (c := c) (mode := mode) (q := q) (r := r) (m := false) hc0 (by omega) (by omega) (by omega) (by omega) (by omega) (.inr ⟨rfl, by omega⟩)
                  have e3 : mulDivR a b c mode = q + 1 := by rw [e0]; simp [rndB, tup_one, tup_two, tup_three, fk1, (beq_eq_false_iff_ne.2 fk1), (beq_eq_false_iff_ne.2 (Ne.symm fk1)), (beq_iff_eq.2 fk22), (beq_iff_eq.2 (Eq.symm fk22)), (Eq.symm fk22), fk23, (beq_eq_false_iff_ne.2 fk23), (beq_eq_false_iff_ne.2 (Ne.symm fk23)), fk24, (beq_eq_false_iff_ne.2 fk24), (beq_eq_false_iff_ne.2 (Ne.symm fk24)), (beq_iff_eq.2 fk32), (beq_iff_eq.2 (Eq.symm fk32)), (Eq.symm fk32), fk33, (decide_eq_false fk33), fk36, (decide_eq_true fk36), (beq_iff_eq.2 fk37), (beq_iff_eq.2 (Eq.symm fk37)), (Eq.symm fk37)] <;> omega
                  have e1 := md_unfit (by omega) hc0 e3 (by omega)
                  exact ⟨by rw [tup_two, mdV, e1.1, e1.2], S30.nil⟩
                · skip
                  refine J.head (.bool false) (congrArg Value.bool (beq_eq_false_iff_ne.2 fk37)) ?_
                  refine J.run 5 K51_96 [(97, .int .u64 (IntKind.wrap .u64 (q + 1))), (10, .bool false)] w30 (by kernel_rfl) ?_
                  refine J.head (.int .u64 (q + 1)) (congrArg (Value.int .u64) (IntWalk.u64_in _ (by omega))) ?_
                  refine J.run 15 K51_97 [(105, .bool (decide ((q + 1) ≥ 9223372036854775808))), (12, .int .u64 (q + 1))] w30 (by kernel_rfl) ?_
                  by_cases fk38 : (q + 1) ≥ 9223372036854775808
                  · skip
                    refine J.head (.bool true) (congrArg Value.bool (decide_eq_true fk38)) ?_
                    refine J.run 6 K51_98 [(9, .int .i64 9), (8, .int .i64 0)] w30 (by kernel_rfl) ?_
                    refine J.ret Tryd.f51 [.int .i64 0, .int .i64 9] Tryd.func51 ⟨by kernel_rfl, by kernel_rfl, trivial⟩ ?_
                    refine hR _ _ ?_
                    have hc0 : c ≠ 0 := by omega
                    subst hd
                    have e0 := md_core2 (a := a) (b := b) (c := c) (mode := mode) (q := q) (r := r) (m := false) hc0 (by omega) (by omega) (by omega) (by omega) (by omega) (.inr ⟨rfl, by omega⟩)
                    have e3 : mulDivR a b c mode = q + 1 := by rw [e0]; simp [rndB, tup_one, tup_two, tup_three, fk1, (beq_eq_false_iff_ne.2 fk1), (beq_eq_false_iff_ne.2 (Ne.symm fk1)), (beq_iff_eq.2 fk22), (beq_iff_eq.2 (Eq.symm fk22)), (Eq.symm fk22), fk23, (beq_eq_false_iff_ne.2 fk23), (beq_eq_false_iff_ne.2 (Ne.symm fk23)), fk24, (beq_eq_false_iff_ne.2 fk24), (beq_eq_false_iff_ne.2 (Ne.symm fk24)), (beq_iff_eq.2 fk32), (beq_iff_eq.2 (Eq.symm fk32)), (Eq.symm fk32), fk33, (decide_eq_false fk33), fk36, (decide_eq_true fk36), fk37, (beq_eq_false_iff_ne.2 fk37), (beq_eq_false_iff_ne.2 (Ne.symm fk37)), fk38, (decide_eq_true fk38)] <;> omega
                    have e1 := md_unfit (by omega) hc0 e3 (by omega)
                    exact ⟨by rw [tup_two, mdV, e1.1, e1.2], S30.nil⟩
                  · skip
                    refine J.head (.bool false) (congrArg Value.bool (decide_eq_false fk38)) ?_
                    refine J.run 6 K51_99 [(107, .int .i64 (IntKind.wrap .i64 (q + 1)))] w30 (by kernel_rfl) ?_
                    refine J.head (.int .i64 (q + 1)) (congrArg (Value.int .i64) (IntWalk.i64_in _ (by omega))) ?_
                    refine J.run 3 K51_100 [(9, .int .i64 0), (8, .int .i64 (q + 1))] w30 (by kernel_rfl) ?_
                    refine J.ret Tryd.f51 [.int .i64 (q + 1), .int .i64 0] Tryd.func51 ⟨by kernel_rfl, by kernel_rfl, trivial⟩ ?_
                    refine hR _ _ ?_
                    have hc0 : c ≠ 0 := by omega
                    subst hd
                    have e0 := md_core2 (a := a) (b := b) (c := c) (mode := mode) (q := q) (r := r) (m := false) hc0 (by omega) (by omega) (by omega) (by omega) (by omega) (.inr ⟨rfl, by omega⟩)
                    have e3 : mulDivR a b c mode = q + 1 := by rw [e0]; simp [rndB, tup_one, tup_two, tup_three, fk1, (beq_eq_false_iff_ne.2 fk1), (beq_eq_false_iff_ne.2 (Ne.symm fk1)), (beq_iff_eq.2 fk22), (beq_iff_eq.2 (Eq.symm fk22)), (Eq.symm fk22), fk23, (beq_eq_false_iff_ne.2 fk23), (beq_eq_false_iff_ne.2 (Ne.symm fk23)), fk24, (beq_eq_false_iff_ne.2 fk24), (beq_eq_false_iff_ne.2 (Ne.symm fk24)), (beq_iff_eq.2 fk32), (beq_iff_eq.2 (Eq.symm fk32)), (Eq.symm fk32), fk33, (decide_eq_false fk33), fk36, (decide_eq_true fk36), fk37, (beq_eq_false_iff_ne.2 fk37), (beq_eq_false_iff_ne.2 (Ne.symm fk37)), fk38, (decide_eq_false fk38)] <;> omega
                    have e1 := md_fit (by omega) hc0 e3 (by omega)
                    exact ⟨by rw [tup_two, mdV, e1.1, e1.2], S30.nil⟩
              · skip
                refine J.head (.bool false) (congrArg Value.bool (decide_eq_false fk36)) ?_
                refine J.run 15 K51_101 [(105, .bool (decide (q ≥ 9223372036854775808))), (12, .int .u64 q)] w30 (by kernel_rfl) ?_
                by_cases fk39 : q ≥ 9223372036854775808
                · skip
                  refine J.head (.bool true) (congrArg Value.bool (decide_eq_true fk39)) ?_
                  refine J.run 6 K51_102 [(9, .int .i64 9), (8, .int .i64 0)] w30 (by kernel_rfl) ?_
                  refine J.ret Tryd.f51 [.int .i64 0, .int .i64 9] Tryd.func51 ⟨by kernel_rfl, by kernel_rfl, trivial⟩ ?_
                  refine hR _ _ ?_
                  have hc0 : c ≠ 0 := by omega
                  subst hd
                  have e0 := md_core2 (a := a) (b := b) (c := c) (mode := mode) (q := q) (r := r) (m := false) hc0 (by omega) (by omega) (by omega) (by omega) (by omega) (.inr ⟨rfl, by omega⟩)
                  have e3 : mulDivR a b c mode = q := by rw [e0]; simp [rndB, tup_one, tup_two, tup_three, fk1, (beq_eq_false_iff_ne.2 fk1), (beq_eq_false_iff_ne.2 (Ne.symm fk1)), (beq_iff_eq.2 fk22), (beq_iff_eq.2 (Eq.symm fk22)), (Eq.symm fk22), fk23, (beq_eq_false_iff_ne.2 fk23), (beq_eq_false_iff_ne.2 (Ne.symm fk23)), fk24, (beq_eq_false_iff_ne.2 fk24), (beq_eq_false_iff_ne.2 (Ne.symm fk24)), (beq_iff_eq.2 fk32), (beq_iff_eq.2 (Eq.symm fk32)), (Eq.symm fk32), fk33, (decide_eq_false fk33), fk36, (decide_eq_false fk36), fk39, (decide_eq_true fk39)] <;> omega
                  have e1 := md_unfit (by omega) hc0 e3 (by omega)
                  exact ⟨by rw [tup_two, mdV, e1.1, e1.2], S30.nil⟩
                · skip
                  refine J.head (.bool false) (congrArg Value.bool (decide_eq_false fk39)) ?_
                  refine J.run 6 K51_103 [(107, .int .i64 (IntKind.wrap .i64 q))] w30 (by kernel_rfl) ?_
                  refine J.head (.int .i64 q) (congrArg (Value.int .i64) (IntWalk.i64_in _ (by omega))) ?_
                  refine J.run 3 K51_104 [(9, .int .i64 0), (8, .int .i64 q)] w30 (by kernel_rfl) ?_
                  refine J.ret Tryd.f51 [.int .i64 q, .int .i64 0] Tryd.func51 ⟨by kernel_rfl, by kernel_rfl, trivial⟩ ?_
                  refine hR _ _ ?_
                  have hc0 : c ≠ 0 := by omega
                  subst hd
                  have e0 := md_core2 (a := a) (b := b) (c := c) (mode := mode) (q := q) (r := r) (m := false) hc0 (by omega) (by omega) (by omega) (by omega) (by omega) (.inr ⟨rfl, by omega⟩)
                  have e3 : mulDivR a b c mode = q := by rw [e0]; simp [rndB, tup_one, tup_two, tup_three, fk1, (beq_eq_false_iff_ne.2 fk1), (beq_eq_false_iff_ne.2 (Ne.symm fk1)), (beq_iff_eq.2 fk22), (beq_iff_eq.2 (Eq.symm fk22)), (Eq.symm fk22), fk23, (beq_eq_false_iff_ne.2 fk23), (beq_eq_false_iff_ne.2 (Ne.symm fk23)), fk24, (beq_eq_false_iff_ne.2 fk24), (beq_eq_false_iff_ne.2 (Ne.symm fk24)), (beq_iff_eq.2 fk32), (beq_iff_eq.2 (Eq.symm fk32)), (Eq.symm fk32), fk33, (decide_eq_false fk33), fk36, (decide_eq_false fk36), fk39, (decide_eq_false fk39)] <;> omega
                  have e1 := md_fit (by omega) hc0 e3 (by omega)
                  exact ⟨by rw [tup_two, mdV, e1.1, e1.2], S30.nil⟩
          · skip
            refine J.head (.bool true) (congrArg Value.bool (bne_iff_ne.2 fk32)) ?_
            refine J.run 8 K51_105 [(42, .bool (!((!((decide (a < 0)) == (decide (b < 0)))) == (decide (c < 0))))), (34, .bool true), (0, .int .i64 a), (1, .int .i64 b), (2, .int .i64 c), (3, .int .i64 mode)] w (by kernel_rfl) ?_
            obtain ⟨m, hm⟩ : ∃ x : Bool, x = (!((!((decide (a < 0)) == (decide (b < 0)))) == (decide (c < 0)))) := ⟨_, rfl⟩
            refine J.head (.bool m) (congrArg Value.bool hm.symm) ?_
            have hm2 : m = negB a b c := hm
            refine J.run 6 K51_106 [(44, .int .i64 c), (10, .bool m), (0, .int .i64 a), (1, .int .i64 b), (3, .int .i64 mode)] w (by kernel_rfl) ?_
            have := mag_le c (by omega)
            refine J.callF 45 61 #[.int .i64 c] hb61 (by kernel_rfl) (size_any c _ (by omega)) ?_
            rintro _ w31 ⟨rfl, T31⟩
            have S31 : Sep w [] w31 := S0.trans T31
            clear T31
            obtain ⟨d, hd⟩ : ∃ x : Int, x = magF c := ⟨_, rfl⟩
            refine J.head (.int .u64 d) (congrArg (Value.int .u64) hd.symm) ?_
            refine J.run 5 K51_107 [(47, .int .i64 a), (11, .int .u64 d), (10, .bool m), (1, .int .i64 b), (3, .int .i64 mode)] w31 (by kernel_rfl) ?_
            have := mag_le a (by omega)
            refine J.callF 48 61 #[.int .i64 a] hb61 (by kernel_rfl) (size_any a _ (by omega)) ?_
            rintro _ w32 ⟨rfl, T32⟩
            have S32 : Sep w [] w32 := S31.trans T32
            clear T32 S31
            obtain ⟨ma, hma⟩ : ∃ x : Int, x = magF a := ⟨_, rfl⟩
            refine J.head (.int .u64 ma) (congrArg (Value.int .u64) hma.symm) ?_
            refine J.run 1 K51_108 [(49, .int .i64 b), (48, .int .u64 ma), (11, .int .u64 d), (10, .bool m), (3, .int .i64 mode)] w32 (by kernel_rfl) ?_
            have := mag_le b (by omega)
            refine J.callF 50 61 #[.int .i64 b] hb61 (by kernel_rfl) (size_any b _ (by omega)) ?_
            rintro _ w33 ⟨rfl, T33⟩
            have S33 : Sep w [] w33 := S32.trans T33
            clear T33 S32
            obtain ⟨mb, hmb⟩ : ∃ x : Int, x = magF b := ⟨_, rfl⟩
            refine J.head (.int .u64 mb) (congrArg (Value.int .u64) hmb.symm) ?_
            have hPb0 : 0 ≤ magF a * magF b := Int.mul_nonneg (by unfold magF; omega) (by unfold magF; omega)
            have hPb : 0 ≤ magF a * magF b ∧ magF a * magF b = ma * mb := ⟨hPb0, by rw [hma, hmb]⟩
            have hmx := mul_max (x := ma) (y := mb) (by omega) (by omega)
            refine J.callF 51 67 #[.int .u64 ma, .int .u64 mb] hb67 (by kernel_rfl) (times_any ma mb _ (by omega) (by omega)) ?_
            rintro _ w34 ⟨rfl, T34⟩
            have S34 : Sep w [] w34 := S33.trans T34
            clear T34 S33
            refine J.run 1 K51_109 [(52, .int .u64 d), (51, .agg #[.int .u64 (ma * mb / 18446744073709551616), .int .u64 (ma * mb % 18446744073709551616)]), (11, .int .u64 d), (10, .bool m), (3, .int .i64 mode)] w34 (by kernel_rfl) ?_
            by_cases fk40 : d ≤ (ma * mb / 18446744073709551616)
            · skip
              refine J.callF 53 66 #[.agg #[.int .u64 (ma * mb / 18446744073709551616), .int .u64 (ma * mb % 18446744073709551616)], .int .u64 d] hb66 (by kernel_rfl) (over_any (ma * mb / 18446744073709551616) (ma * mb % 18446744073709551616) d _ (by omega) (by omega) (by omega)) ?_
              rintro _ w35 ⟨rfl, T35⟩
              have S35 : Sep w [] w35 := S34.trans T35
              clear T35 S34
              refine J.head (.tuple #[.int .u64 0, .int .u64 0, .bool false]) (by first | (simp only [overV, fk40, reduceCtorEq, ↓reduceIte]; done) | simp [overV, fk40]) ?_
              refine J.run 20 K51_110 [(9, .int .i64 9), (8, .int .i64 0)] w35 (by kernel_rfl) ?_
              refine J.ret Tryd.f51 [.int .i64 0, .int .i64 9] Tryd.func51 ⟨by kernel_rfl, by kernel_rfl, trivial⟩ ?_
              refine hR _ _ ?_
              have hc0 : c ≠ 0 := by omega
              have e1 := md_big (a := a) (b := b) (mode := mode) (by omega) hc0 hPb0 (by omega)
              exact ⟨by rw [tup_two, mdV, e1.1, e1.2], S35.nil⟩
            · skip
              refine J.callF 53 66 #[.agg #[.int .u64 (ma * mb / 18446744073709551616), .int .u64 (ma * mb % 18446744073709551616)], .int .u64 d] hb66 (by kernel_rfl) (over_any (ma * mb / 18446744073709551616) (ma * mb % 18446744073709551616) d _ (by omega) (by omega) (by omega)) ?_
              rintro _ w36 ⟨rfl, T36⟩
              have S36 : Sep w [] w36 := S34.trans T36
              clear T36 S34
              refine J.head (.tuple #[.int .u64 (((ma * mb / 18446744073709551616) * 18446744073709551616 + (ma * mb % 18446744073709551616)) / d), .int .u64 (((ma * mb / 18446744073709551616) * 18446744073709551616 + (ma * mb % 18446744073709551616)) % d), .bool true]) (by first | (simp only [overV, fk40, reduceCtorEq, ↓reduceIte]; done) | simp [overV, fk40]) ?_
              refine J.run 2 K51_111 [(54, .int .u64 (((ma * mb / 18446744073709551616) * 18446744073709551616 + (ma * mb % 18446744073709551616)) / d)), (46, .tuple #[.int .u64 (((ma * mb / 18446744073709551616) * 18446744073709551616 + (ma * mb % 18446744073709551616)) / d), .int .u64 (((ma * mb / 18446744073709551616) * 18446744073709551616 + (ma * mb % 18446744073709551616)) % d), .bool true]), (11, .int .u64 d), (10, .bool m), (3, .int .i64 mode)] w36 (by kernel_rfl) ?_
              obtain ⟨q, hq⟩ : ∃ x : Int, x = ((ma * mb / 18446744073709551616) * 18446744073709551616 + (ma * mb % 18446744073709551616)) / d := ⟨_, rfl⟩
              refine J.head (.int .u64 q) (congrArg (Value.int .u64) hq.symm) ?_
              have hq5 := q_top hq (by omega) (by omega)
              refine J.run 1 K51_112 [(55, .int .u64 (((ma * mb / 18446744073709551616) * 18446744073709551616 + (ma * mb % 18446744073709551616)) % d)), (54, .int .u64 q), (46, .tuple #[.int .u64 (((ma * mb / 18446744073709551616) * 18446744073709551616 + (ma * mb % 18446744073709551616)) / d), .int .u64 (((ma * mb / 18446744073709551616) * 18446744073709551616 + (ma * mb % 18446744073709551616)) % d), .bool true]), (11, .int .u64 d), (10, .bool m), (3, .int .i64 mode)] w36 (by kernel_rfl) ?_
              obtain ⟨r, hr⟩ : ∃ x : Int, x = ((ma * mb / 18446744073709551616) * 18446744073709551616 + (ma * mb % 18446744073709551616)) % d := ⟨_, rfl⟩
              refine J.head (.int .u64 r) (congrArg (Value.int .u64) hr.symm) ?_
              obtain ⟨hq1, hq2, hq3, hq4⟩ := qr_facts hq hr (by omega) (by omega)
              have hq6 := q_le (q := q) (d := d) hq4 (by omega)
              have hz : (a = 0 ∨ b = 0) → ma * mb = 0 := fun h => by rw [← hPb.2]; exact md_zero h
              refine J.run 28 K51_113 [(60, .bool (mode == 1)), (59, .int .i64 mode), (15, .bool false), (13, .int .u64 r), (12, .int .u64 q), (11, .int .u64 d), (10, .bool m)] w36 (by kernel_rfl) ?_
              refine J.head (.bool false) (congrArg Value.bool (beq_eq_false_iff_ne.2 fk1)) ?_
              refine J.run 6 K51_114 [(67, .bool (mode == 2)), (59, .int .i64 mode), (15, .bool false), (13, .int .u64 r), (12, .int .u64 q), (11, .int .u64 d), (10, .bool m)] w36 (by kernel_rfl) ?_
              refine J.head (.bool true) (congrArg Value.bool (beq_iff_eq.2 fk22)) ?_
              refine J.run 5 K51_115 [(71, .bool (!m)), (13, .int .u64 r), (12, .int .u64 q), (10, .bool m)] w36 (by kernel_rfl) ?_
              rcases Bool.eq_false_or_eq_true m with fk43 | fk43
              · skip
                refine J.head (.bool false) (congrArg Value.bool (by rw [fk43]; rfl)) ?_
                refine J.run 18 K51_116 [(98, .bool m), (12, .int .u64 q)] w36 (by kernel_rfl) ?_
                refine J.head (.bool true) (congrArg Value.bool fk43) ?_
                refine J.run 7 K51_117 [(100, .bool (decide (q > 9223372036854775808))), (12, .int .u64 q)] w36 (by kernel_rfl) ?_
                by_cases fk45 : q > 9223372036854775808
                · skip
                  refine J.head (.bool true) (congrArg Value.bool (decide_eq_true fk45)) ?_
                  refine J.run 6 K51_118 [(9, .int .i64 9), (8, .int .i64 0)] w36 (by kernel_rfl) ?_
                  refine J.ret Tryd.f51 [.int .i64 0, .int .i64 9] Tryd.func51 ⟨by kernel_rfl, by kernel_rfl, trivial⟩ ?_
                  refine hR _ _ ?_
                  have hc0 : c ≠ 0 := by omega
                  subst hd
                  have e0 := md_core2 (a := a) (b := b) (c := c) (mode := mode) (q := q) (r := r) (m := m) hc0 (by omega) (by omega) (by omega) (by omega) (by omega) (.inl hm2)
                  have e3 : mulDivR a b c mode = -(q) := by rw [e0]; (try simp only [rndB, tup_one, tup_two, tup_three, fk1, (beq_eq_false_iff_ne.2 fk1), (beq_eq_false_iff_ne.2 (Ne.symm fk1)), (beq_iff_eq.2 fk22), (beq_iff_eq.2 (Eq.symm fk22)), (Eq.symm fk22), fk23, (beq_eq_false_iff_ne.2 fk23), (beq_eq_false_iff_ne.2 (Ne.symm fk23)), fk24, (beq_eq_false_iff_ne.2 fk24), (beq_eq_false_iff_ne.2 (Ne.symm fk24)), fk32, (beq_eq_false_iff_ne.2 fk32), (beq_eq_false_iff_ne.2 (Ne.symm fk32)), fk40, (decide_eq_false fk40), fk45, (decide_eq_true fk45)]) <;> simp [rndB, tup_one, tup_two, tup_three, fk1, (beq_eq_false_iff_ne.2 fk1), (beq_eq_false_iff_ne.2 (Ne.symm fk1)), (beq_iff_eq.2 fk22), (beq_iff_eq.2 (Eq.symm fk22)), (Eq.symm fk22), fk23, (beq_eq_false_iff_ne.2 fk23), (beq_eq_false_iff_ne.2 (Ne.symm fk23)), fk24, (beq_eq_false_iff_ne.2 fk24), (beq_eq_false_iff_ne.2 (Ne.symm fk24)), fk32, (beq_eq_false_iff_ne.2 fk32), (beq_eq_false_iff_ne.2 (Ne.symm fk32)), fk40, (decide_eq_false fk40), fk45, (decide_eq_true fk45), fk43] <;> omega
                  have e1 := md_unfit (by omega) hc0 e3 (by omega)
                  exact ⟨by rw [tup_two, mdV, e1.1, e1.2], S36.nil⟩
                · skip
                  refine J.head (.bool false) (congrArg Value.bool (decide_eq_false fk45)) ?_
                  refine J.run 7 K51_119 [(103, .int .i64 (IntKind.wrap .i64 (IntKind.wrap .u64 (0 - q))))] w36 (by kernel_rfl) ?_
                  refine J.head (.int .i64 (-q)) (congrArg (Value.int .i64) (neg_conv (by omega))) ?_
                  refine J.run 3 K51_120 [(9, .int .i64 0), (8, .int .i64 (-q))] w36 (by kernel_rfl) ?_
                  refine J.ret Tryd.f51 [.int .i64 (-q), .int .i64 0] Tryd.func51 ⟨by kernel_rfl, by kernel_rfl, trivial⟩ ?_
                  refine hR _ _ ?_
                  have hc0 : c ≠ 0 := by omega
                  subst hd
                  have e0 := md_core2 (a := a) (b := b) (c := c) (mode := mode) (q := q) (r := r) (m := m) hc0 (by omega) (by omega) (by omega) (by omega) (by omega) (.inl hm2)
                  have e3 : mulDivR a b c mode = -q := by rw [e0]; (try simp only [rndB, tup_one, tup_two, tup_three, fk1, (beq_eq_false_iff_ne.2 fk1), (beq_eq_false_iff_ne.2 (Ne.symm fk1)), (beq_iff_eq.2 fk22), (beq_iff_eq.2 (Eq.symm fk22)), (Eq.symm fk22), fk23, (beq_eq_false_iff_ne.2 fk23), (beq_eq_false_iff_ne.2 (Ne.symm fk23)), fk24, (beq_eq_false_iff_ne.2 fk24), (beq_eq_false_iff_ne.2 (Ne.symm fk24)), fk32, (beq_eq_false_iff_ne.2 fk32), (beq_eq_false_iff_ne.2 (Ne.symm fk32)), fk40, (decide_eq_false fk40), fk45, (decide_eq_false fk45)]) <;> simp [rndB, tup_one, tup_two, tup_three, fk1, (beq_eq_false_iff_ne.2 fk1), (beq_eq_false_iff_ne.2 (Ne.symm fk1)), (beq_iff_eq.2 fk22), (beq_iff_eq.2 (Eq.symm fk22)), (Eq.symm fk22), fk23, (beq_eq_false_iff_ne.2 fk23), (beq_eq_false_iff_ne.2 (Ne.symm fk23)), fk24, (beq_eq_false_iff_ne.2 fk24), (beq_eq_false_iff_ne.2 (Ne.symm fk24)), fk32, (beq_eq_false_iff_ne.2 fk32), (beq_eq_false_iff_ne.2 (Ne.symm fk32)), fk40, (decide_eq_false fk40), fk45, (decide_eq_false fk45), fk43] <;> omega
                  have e1 := md_fit (by omega) hc0 e3 (by omega)
                  exact ⟨by rw [tup_two, mdV, e1.1, e1.2], S36.nil⟩
              · skip
                refine J.head (.bool true) (congrArg Value.bool (by rw [fk43]; rfl)) ?_
                refine J.run 11 K51_121 [(93, .bool (decide (r > 0))), (12, .int .u64 q), (10, .bool m)] w36 (by kernel_rfl) ?_
                by_cases fk46 : r > 0
                · skip
                  refine J.head (.bool true) (congrArg Value.bool (decide_eq_true fk46)) ?_
                  refine J.run 7 K51_122 [(95, .bool (q == 18446744073709551615)), (12, .int .u64 q), (10, .bool m)] w36 (by kernel_rfl) ?_
                  by_cases fk47 : q = 18446744073709551615
                  · skip
                    refine J.head (.bool true) (congrArg Value.bool (beq_iff_eq.2 fk47)) ?_
                    refine J.run 6 K51_123 [(9, .int .i64 9), (8, .int .i64 0)] w36 (by kernel_rfl) ?_
                    refine J.ret Tryd.f51 [.int .i64 0, .int .i64 9] Tryd.func51 ⟨by kernel_rfl, by kernel_rfl, trivial⟩ ?_
                    refine hR _ _ ?_
                    have hc0 : c ≠ 0 := by omega
                    subst hd
                    have e0 := md_core2 (a := a) (b := b) (c := c) (mode := mode) (q := q) (r := r) (m := m) hc0 (by omega) (by omega) (by omega) (by omega) (by omega) (.inl hm2)
                    have e3 : mulDivR a b c mode = q + 1 := by rw [e0]; (try simp only [rndB, tup_one, tup_two, tup_three, fk1, (beq_eq_false_iff_ne.2 fk1), (beq_eq_false_iff_ne.2 (Ne.symm fk1)), (beq_iff_eq.2 fk22), (beq_iff_eq.2 (Eq.symm fk22)), (Eq.symm fk22), fk23, (beq_eq_false_iff_ne.2 fk23), (beq_eq_false_iff_ne.2 (Ne.symm fk23)), fk24, (beq_eq_false_iff_ne.2 fk24), (beq_eq_false_iff_ne.2 (Ne.symm fk24)), fk32, (beq_eq_false_iff_ne.2 fk32), (beq_eq_false_iff_ne.2 (Ne.symm fk32)), fk40, (decide_eq_false fk40), fk46, (decide_eq_true fk46), (beq_iff_eq.2 fk47), (beq_iff_eq.2 (Eq.symm fk47)), (Eq.symm fk47)]) <;> simp [rndB, tup_one, tup_two, tup_three, fk1, (beq_eq_false_iff_ne.2 fk1), (beq_eq_false_iff_ne.2 (Ne.symm fk1)), (beq_iff_eq.2 fk22), (beq_iff_eq.2 (Eq.symm fk22)), (Eq.symm fk22), fk23, (beq_eq_false_iff_ne.2 fk23), (beq_eq_false_iff_ne.2 (Ne.symm fk23)), fk24, (beq_eq_false_iff_ne.2 fk24), (beq_eq_false_iff_ne.2 (Ne.symm fk24)), fk32, (beq_eq_false_iff_ne.2 fk32), (beq_eq_false_iff_ne.2 (Ne.symm fk32)), fk40, (decide_eq_false fk40), fk46, (decide_eq_true fk46), (beq_iff_eq.2 fk47), (beq_iff_eq.2 (Eq.symm fk47)), (Eq.symm fk47), fk43] <;> omega
                    have e1 := md_unfit (by omega) hc0 e3 (by omega)
                    exact ⟨by rw [tup_two, mdV, e1.1, e1.2], S36.nil⟩
                  · skip
                    refine J.head (.bool false) (congrArg Value.bool (beq_eq_false_iff_ne.2 fk47)) ?_
                    refine J.run 5 K51_124 [(97, .int .u64 (IntKind.wrap .u64 (q + 1))), (10, .bool m)] w36 (by kernel_rfl) ?_
                    refine J.head (.int .u64 (q + 1)) (congrArg (Value.int .u64) (IntWalk.u64_in _ (by omega))) ?_
                    refine J.run 7 K51_125 [(98, .bool m), (12, .int .u64 (q + 1))] w36 (by kernel_rfl) ?_
                    refine J.head (.bool false) (congrArg Value.bool fk43) ?_
                    refine J.run 8 K51_126 [(105, .bool (decide ((q + 1) ≥ 9223372036854775808))), (12, .int .u64 (q + 1))] w36 (by kernel_rfl) ?_
                    by_cases fk49 : (q + 1) ≥ 9223372036854775808
                    · skip
                      refine J.head (.bool true) (congrArg Value.bool (decide_eq_true fk49)) ?_
                      refine J.run 6 K51_127 [(9, .int .i64 9), (8, .int .i64 0)] w36 (by kernel_rfl) ?_
                      refine J.ret Tryd.f51 [.int .i64 0, .int .i64 9] Tryd.func51 ⟨by kernel_rfl, by kernel_rfl, trivial⟩ ?_
                      refine hR _ _ ?_
                      have hc0 : c ≠ 0 := by omega
                      subst hd
                      have e0 := md_core2 (a := a) (b := b) (c := c) (mode := mode) (q := q) (r := r) (m := m) hc0 (by omega) (by omega) (by omega) (by omega) (by omega) (.inl hm2)
                      have e3 : mulDivR a b c mode = q + 1 := by rw [e0]; (try simp only [rndB, tup_one, tup_two, tup_three, fk1, (beq_eq_false_iff_ne.2 fk1), (beq_eq_false_iff_ne.2 (Ne.symm fk1)), (beq_iff_eq.2 fk22), (beq_iff_eq.2 (Eq.symm fk22)), (Eq.symm fk22), fk23, (beq_eq_false_iff_ne.2 fk23), (beq_eq_false_iff_ne.2 (Ne.symm fk23)), fk24, (beq_eq_false_iff_ne.2 fk24), (beq_eq_false_iff_ne.2 (Ne.symm fk24)), fk32, (beq_eq_false_iff_ne.2 fk32), (beq_eq_false_iff_ne.2 (Ne.symm fk32)), fk40, (decide_eq_false fk40), fk46, (decide_eq_true fk46), fk47, (beq_eq_false_iff_ne.2 fk47), (beq_eq_false_iff_ne.2 (Ne.symm fk47)), fk49, (decide_eq_true fk49)]) <;> simp [rndB, tup_one, tup_two, tup_three, fk1, (beq_eq_false_iff_ne.2 fk1), (beq_eq_false_iff_ne.2 (Ne.symm fk1)), (beq_iff_eq.2 fk22), (beq_iff_eq.2 (Eq.symm fk22)), (Eq.symm fk22), fk23, (beq_eq_false_iff_ne.2 fk23), (beq_eq_false_iff_ne.2 (Ne.symm fk23)), fk24, (beq_eq_false_iff_ne.2 fk24), (beq_eq_false_iff_ne.2 (Ne.symm fk24)), fk32, (beq_eq_false_iff_ne.2 fk32), (beq_eq_false_iff_ne.2 (Ne.symm fk32)), fk40, (decide_eq_false fk40), fk46, (decide_eq_true fk46), fk47, (beq_eq_false_iff_ne.2 fk47), (beq_eq_false_iff_ne.2 (Ne.symm fk47)), fk49, (decide_eq_true fk49), fk43] <;> omega
                      have e1 := md_unfit (by omega) hc0 e3 (by omega)
                      exact ⟨by rw [tup_two, mdV, e1.1, e1.2], S36.nil⟩
                    · skip
                      refine J.head (.bool false) (congrArg Value.bool (decide_eq_false fk49)) ?_
                      refine J.run 6 K51_128 [(107, .int .i64 (IntKind.wrap .i64 (q + 1)))] w36 (by kernel_rfl) ?_
                      refine J.head (.int .i64 (q + 1)) (congrArg (Value.int .i64) (IntWalk.i64_in _ (by omega))) ?_
                      refine J.run 3 K51_129 [(9, .int .i64 0), (8, .int .i64 (q + 1))] w36 (by kernel_rfl) ?_
                      refine J.ret Tryd.f51 [.int .i64 (q + 1), .int .i64 0] Tryd.func51 ⟨by kernel_rfl, by kernel_rfl, trivial⟩ ?_
                      refine hR _ _ ?_
                      have hc0 : c ≠ 0 := by omega
                      subst hd
                      have e0 := md_core2 (a := a) (b := b) (c := c) (mode := mode) (q := q) (r := r) (m := m) hc0 (by omega) (by omega) (by omega) (by omega) (by omega) (.inl hm2)
                      have e3 : mulDivR a b c mode = q + 1 := by rw [e0]; (try simp only [rndB, tup_one, tup_two, tup_three, fk1, (beq_eq_false_iff_ne.2 fk1), (beq_eq_false_iff_ne.2 (Ne.symm fk1)), (beq_iff_eq.2 fk22), (beq_iff_eq.2 (Eq.symm fk22)), (Eq.symm fk22), fk23, (beq_eq_false_iff_ne.2 fk23), (beq_eq_false_iff_ne.2 (Ne.symm fk23)), fk24, (beq_eq_false_iff_ne.2 fk24), (beq_eq_false_iff_ne.2 (Ne.symm fk24)), fk32, (beq_eq_false_iff_ne.2 fk32), (beq_eq_false_iff_ne.2 (Ne.symm fk32)), fk40, (decide_eq_false fk40), fk46, (decide_eq_true fk46), fk47, (beq_eq_false_iff_ne.2 fk47), (beq_eq_false_iff_ne.2 (Ne.symm fk47)), fk49, (decide_eq_false fk49)]) <;> simp [rndB, tup_one, tup_two, tup_three, fk1, (beq_eq_false_iff_ne.2 fk1), (beq_eq_false_iff_ne.2 (Ne.symm fk1)), (beq_iff_eq.2 fk22), (beq_iff_eq.2 (Eq.symm fk22)), (Eq.symm fk22), fk23, (beq_eq_false_iff_ne.2 fk23), (beq_eq_false_iff_ne.2 (Ne.symm fk23)), fk24, (beq_eq_false_iff_ne.2 fk24), (beq_eq_false_iff_ne.2 (Ne.symm fk24)), fk32, (beq_eq_false_iff_ne.2 fk32), (beq_eq_false_iff_ne.2 (Ne.symm fk32)), fk40, (decide_eq_false fk40), fk46, (decide_eq_true fk46), fk47, (beq_eq_false_iff_ne.2 fk47), (beq_eq_false_iff_ne.2 (Ne.symm fk47)), fk49, (decide_eq_false fk49), fk43] <;> omega
                      have e1 := md_fit (by omega) hc0 e3 (by omega)
                      exact ⟨by rw [tup_two, mdV, e1.1, e1.2], S36.nil⟩
                · skip
                  refine J.head (.bool false) (congrArg Value.bool (decide_eq_false fk46)) ?_
                  refine J.run 7 K51_130 [(98, .bool m), (12, .int .u64 q)] w36 (by kernel_rfl) ?_
                  refine J.head (.bool false) (congrArg Value.bool fk43) ?_
                  refine J.run 8 K51_131 [(105, .bool (decide (q ≥ 9223372036854775808))), (12, .int .u64 q)] w36 (by kernel_rfl) ?_
                  by_cases fk51 : q ≥ 9223372036854775808
                  · skip
                    refine J.head (.bool true) (congrArg Value.bool (decide_eq_true fk51)) ?_
                    refine J.run 6 K51_132 [(9, .int .i64 9), (8, .int .i64 0)] w36 (by kernel_rfl) ?_
                    refine J.ret Tryd.f51 [.int .i64 0, .int .i64 9] Tryd.func51 ⟨by kernel_rfl, by kernel_rfl, trivial⟩ ?_
                    refine hR _ _ ?_
                    have hc0 : c ≠ 0 := by omega
                    subst hd
                    have e0 := md_core2 (a := a) (b := b) (c := c) (mode := mode) (q := q) (r := r) (m := m) hc0 (by omega) (by omega) (by omega) (by omega) (by omega) (.inl hm2)
                    have e3 : mulDivR a b c mode = q := by rw [e0]; (try simp only [rndB, tup_one, tup_two, tup_three, fk1, (beq_eq_false_iff_ne.2 fk1), (beq_eq_false_iff_ne.2 (Ne.symm fk1)), (beq_iff_eq.2 fk22), (beq_iff_eq.2 (Eq.symm fk22)), (Eq.symm fk22), fk23, (beq_eq_false_iff_ne.2 fk23), (beq_eq_false_iff_ne.2 (Ne.symm fk23)), fk24, (beq_eq_false_iff_ne.2 fk24), (beq_eq_false_iff_ne.2 (Ne.symm fk24)), fk32, (beq_eq_false_iff_ne.2 fk32), (beq_eq_false_iff_ne.2 (Ne.symm fk32)), fk40, (decide_eq_false fk40), fk46, (decide_eq_false fk46), fk51, (decide_eq_true fk51)]) <;> simp [rndB, tup_one, tup_two, tup_three, fk1, (beq_eq_false_iff_ne.2 fk1), (beq_eq_false_iff_ne.2 (Ne.symm fk1)), (beq_iff_eq.2 fk22), (beq_iff_eq.2 (Eq.symm fk22)), (Eq.symm fk22), fk23, (beq_eq_false_iff_ne.2 fk23), (beq_eq_false_iff_ne.2 (Ne.symm fk23)), fk24, (beq_eq_false_iff_ne.2 fk24), (beq_eq_false_iff_ne.2 (Ne.symm fk24)), fk32, (beq_eq_false_iff_ne.2 fk32), (beq_eq_false_iff_ne.2 (Ne.symm fk32)), fk40, (decide_eq_false fk40), fk46, (decide_eq_false fk46), fk51, (decide_eq_true fk51), fk43] <;> omega
                    have e1 := md_unfit (by omega) hc0 e3 (by omega)
                    exact ⟨by rw [tup_two, mdV, e1.1, e1.2], S36.nil⟩
                  · skip
                    refine J.head (.bool false) (congrArg Value.bool (decide_eq_false fk51)) ?_
                    refine J.run 6 K51_133 [(107, .int .i64 (IntKind.wrap .i64 q))] w36 (by kernel_rfl) ?_
                    refine J.head (.int .i64 q) (congrArg (Value.int .i64) (IntWalk.i64_in _ (by omega))) ?_
                    refine J.run 3 K51_134 [(9, .int .i64 0), (8, .int .i64 q)] w36 (by kernel_rfl) ?_
                    refine J.ret Tryd.f51 [.int .i64 q, .int .i64 0] Tryd.func51 ⟨by kernel_rfl, by kernel_rfl, trivial⟩ ?_
                    refine hR _ _ ?_
                    have hc0 : c ≠ 0 := by omega
                    subst hd
                    have e0 := md_core2 (a := a) (b := b) (c := c) (mode := mode) (q := q) (r := r) (m := m) hc0 (by omega) (by omega) (by omega) (by omega) (by omega) (.inl hm2)
                    have e3 : mulDivR a b c mode = q := by rw [e0]; (try simp only [rndB, tup_one, tup_two, tup_three, fk1, (beq_eq_false_iff_ne.2 fk1), (beq_eq_false_iff_ne.2 (Ne.symm fk1)), (beq_iff_eq.2 fk22), (beq_iff_eq.2 (Eq.symm fk22)), (Eq.symm fk22), fk23, (beq_eq_false_iff_ne.2 fk23), (beq_eq_false_iff_ne.2 (Ne.symm fk23)), fk24, (beq_eq_false_iff_ne.2 fk24), (beq_eq_false_iff_ne.2 (Ne.symm fk24)), fk32, (beq_eq_false_iff_ne.2 fk32), (beq_eq_false_iff_ne.2 (Ne.symm fk32)), fk40, (decide_eq_false fk40), fk46, (decide_eq_false fk46), fk51, (decide_eq_false fk51)]) <;> simp [rndB, tup_one, tup_two, tup_three, fk1, (beq_eq_false_iff_ne.2 fk1), (beq_eq_false_iff_ne.2 (Ne.symm fk1)), (beq_iff_eq.2 fk22), (beq_iff_eq.2 (Eq.symm fk22)), (Eq.symm fk22), fk23, (beq_eq_false_iff_ne.2 fk23), (beq_eq_false_iff_ne.2 (Ne.symm fk23)), fk24, (beq_eq_false_iff_ne.2 fk24), (beq_eq_false_iff_ne.2 (Ne.symm fk24)), fk32, (beq_eq_false_iff_ne.2 fk32), (beq_eq_false_iff_ne.2 (Ne.symm fk32)), fk40, (decide_eq_false fk40), fk46, (decide_eq_false fk46), fk51, (decide_eq_false fk51), fk43] <;> omega
                    have e1 := md_fit (by omega) hc0 e3 (by omega)
                    exact ⟨by rw [tup_two, mdV, e1.1, e1.2], S36.nil⟩
    · skip
      refine J.head (.bool true) (congrArg Value.bool (bne_iff_ne.2 fk22)) ?_
      refine J.run 4 K51_135 [(25, .bool (mode != 3)), (0, .int .i64 a), (1, .int .i64 b), (2, .int .i64 c), (3, .int .i64 mode)] w (by kernel_rfl) ?_
      by_cases fk52 : mode = 3
      · skip
        refine J.head (.bool false) (congrArg Value.bool (bne_eq_false_iff_eq.2 fk52)) ?_
        refine J.run 8 K51_136 [(27, .bool (c == 0)), (0, .int .i64 a), (1, .int .i64 b), (2, .int .i64 c), (3, .int .i64 mode)] w (by kernel_rfl) ?_
        by_cases fk53 : c = 0
        · skip
          refine J.head (.bool true) (congrArg Value.bool (beq_iff_eq.2 fk53)) ?_
          refine J.run 6 K51_137 [(9, .int .i64 10), (8, .int .i64 0)] w (by kernel_rfl) ?_
          refine J.ret Tryd.f51 [.int .i64 0, .int .i64 10] Tryd.func51 ⟨by kernel_rfl, by kernel_rfl, trivial⟩ ?_
          refine hR _ _ ?_
          have e1 : mdX a b c mode = 0 ∧ mdE a b c mode = 10 := by unfold mdX mdE; rw [if_neg (by omega), if_pos (by omega), if_neg (by omega), if_pos (by omega)]; exact ⟨rfl, rfl⟩
          exact ⟨by rw [tup_two, mdV, e1.1, e1.2], S0.nil⟩
        · skip
          refine J.head (.bool false) (congrArg Value.bool (beq_eq_false_iff_ne.2 fk53)) ?_
          refine J.run 7 K51_138 [(30, .bool (a != 0)), (0, .int .i64 a), (1, .int .i64 b), (2, .int .i64 c), (3, .int .i64 mode)] w (by kernel_rfl) ?_
          by_cases fk54 : a = 0
          · skip
            refine J.head (.bool false) (congrArg Value.bool (bne_eq_false_iff_eq.2 fk54)) ?_
            refine J.run 18 K51_139 [(44, .int .i64 c), (10, .bool false), (0, .int .i64 a), (1, .int .i64 b), (3, .int .i64 mode)] w (by kernel_rfl) ?_
            have := mag_le c (by omega)
            refine J.callF 45 61 #[.int .i64 c] hb61 (by kernel_rfl) (size_any c _ (by omega)) ?_
            rintro _ w37 ⟨rfl, T37⟩
            have S37 : Sep w [] w37 := S0.trans T37
            clear T37
            obtain ⟨d, hd⟩ : ∃ x : Int, x = magF c := ⟨_, rfl⟩
            refine J.head (.int .u64 d) (congrArg (Value.int .u64) hd.symm) ?_
            refine J.run 5 K51_140 [(47, .int .i64 a), (11, .int .u64 d), (10, .bool false), (1, .int .i64 b), (3, .int .i64 mode)] w37 (by kernel_rfl) ?_
            have := mag_le a (by omega)
            refine J.callF 48 61 #[.int .i64 a] hb61 (by kernel_rfl) (size_any a _ (by omega)) ?_
            rintro _ w38 ⟨rfl, T38⟩
            have S38 : Sep w [] w38 := S37.trans T38
            clear T38 S37
            obtain ⟨ma, hma⟩ : ∃ x : Int, x = magF a := ⟨_, rfl⟩
            refine J.head (.int .u64 ma) (congrArg (Value.int .u64) hma.symm) ?_
            refine J.run 1 K51_141 [(49, .int .i64 b), (48, .int .u64 ma), (11, .int .u64 d), (10, .bool false), (3, .int .i64 mode)] w38 (by kernel_rfl) ?_
            have := mag_le b (by omega)
            refine J.callF 50 61 #[.int .i64 b] hb61 (by kernel_rfl) (size_any b _ (by omega)) ?_
            rintro _ w39 ⟨rfl, T39⟩
            have S39 : Sep w [] w39 := S38.trans T39
            clear T39 S38
            obtain ⟨mb, hmb⟩ : ∃ x : Int, x = magF b := ⟨_, rfl⟩
            refine J.head (.int .u64 mb) (congrArg (Value.int .u64) hmb.symm) ?_
            have hPb0 : 0 ≤ magF a * magF b := Int.mul_nonneg (by unfold magF; omega) (by unfold magF; omega)
            have hPb : 0 ≤ magF a * magF b ∧ magF a * magF b = ma * mb := ⟨hPb0, by rw [hma, hmb]⟩
            have hmx := mul_max (x := ma) (y := mb) (by omega) (by omega)
            refine J.callF 51 67 #[.int .u64 ma, .int .u64 mb] hb67 (by kernel_rfl) (times_any ma mb _ (by omega) (by omega)) ?_
            rintro _ w40 ⟨rfl, T40⟩
            have S40 : Sep w [] w40 := S39.trans T40
            clear T40 S39
            refine J.run 1 K51_142 [(52, .int .u64 d), (51, .agg #[.int .u64 (ma * mb / 18446744073709551616), .int .u64 (ma * mb % 18446744073709551616)]), (11, .int .u64 d), (10, .bool false), (3, .int .i64 mode)] w40 (by kernel_rfl) ?_
            by_cases fk55 : d ≤ (ma * mb / 18446744073709551616)
            · skip
              refine J.callF 53 66 #[.agg #[.int .u64 (ma * mb / 18446744073709551616), .int .u64 (ma * mb % 18446744073709551616)], .int .u64 d] hb66 (by kernel_rfl) (over_any (ma * mb / 18446744073709551616) (ma * mb % 18446744073709551616) d _ (by omega) (by omega) (by omega)) ?_
              rintro _ w41 ⟨rfl, T41⟩
              have S41 : Sep w [] w41 := S40.trans T41
              clear T41 S40
              refine J.head (.tuple #[.int .u64 0, .int .u64 0, .bool false]) (by first | (simp only [overV, fk55, reduceCtorEq, ↓reduceIte]; done) | simp [overV, fk55]) ?_
              refine J.run 20 K51_143 [(9, .int .i64 9), (8, .int .i64 0)] w41 (by kernel_rfl) ?_
              refine J.ret Tryd.f51 [.int .i64 0, .int .i64 9] Tryd.func51 ⟨by kernel_rfl, by kernel_rfl, trivial⟩ ?_
              refine hR _ _ ?_
              have hc0 : c ≠ 0 := by omega
              have e1 := md_big (a := a) (b := b) (mode := mode) (by omega) hc0 hPb0 (by omega)
              exact ⟨by rw [tup_two, mdV, e1.1, e1.2], S41.nil⟩
            · skip
              refine J.callF 53 66 #[.agg #[.int .u64 (ma * mb / 18446744073709551616), .int .u64 (ma * mb % 18446744073709551616)], .int .u64 d] hb66 (by kernel_rfl) (over_any (ma * mb / 18446744073709551616) (ma * mb % 18446744073709551616) d _ (by omega) (by omega) (by omega)) ?_
              rintro _ w42 ⟨rfl, T42⟩
              have S42 : Sep w [] w42 := S40.trans T42
              clear T42 S40
              refine J.head (.tuple #[.int .u64 (((ma * mb / 18446744073709551616) * 18446744073709551616 + (ma * mb % 18446744073709551616)) / d), .int .u64 (((ma * mb / 18446744073709551616) * 18446744073709551616 + (ma * mb % 18446744073709551616)) % d), .bool true]) (by first | (simp only [overV, fk55, reduceCtorEq, ↓reduceIte]; done) | simp [overV, fk55]) ?_
              refine J.run 2 K51_144 [(54, .int .u64 (((ma * mb / 18446744073709551616) * 18446744073709551616 + (ma * mb % 18446744073709551616)) / d)), (46, .tuple #[.int .u64 (((ma * mb / 18446744073709551616) * 18446744073709551616 + (ma * mb % 18446744073709551616)) / d), .int .u64 (((ma * mb / 18446744073709551616) * 18446744073709551616 + (ma * mb % 18446744073709551616)) % d), .bool true]), (11, .int .u64 d), (10, .bool false), (3, .int .i64 mode)] w42 (by kernel_rfl) ?_
              obtain ⟨q, hq⟩ : ∃ x : Int, x = ((ma * mb / 18446744073709551616) * 18446744073709551616 + (ma * mb % 18446744073709551616)) / d := ⟨_, rfl⟩
              refine J.head (.int .u64 q) (congrArg (Value.int .u64) hq.symm) ?_
              have hq5 := q_top hq (by omega) (by omega)
              refine J.run 1 K51_145 [(55, .int .u64 (((ma * mb / 18446744073709551616) * 18446744073709551616 + (ma * mb % 18446744073709551616)) % d)), (54, .int .u64 q), (46, .tuple #[.int .u64 (((ma * mb / 18446744073709551616) * 18446744073709551616 + (ma * mb % 18446744073709551616)) / d), .int .u64 (((ma * mb / 18446744073709551616) * 18446744073709551616 + (ma * mb % 18446744073709551616)) % d), .bool true]), (11, .int .u64 d), (10, .bool false), (3, .int .i64 mode)] w42 (by kernel_rfl) ?_
              obtain ⟨r, hr⟩ : ∃ x : Int, x = ((ma * mb / 18446744073709551616) * 18446744073709551616 + (ma * mb % 18446744073709551616)) % d := ⟨_, rfl⟩
              refine J.head (.int .u64 r) (congrArg (Value.int .u64) hr.symm) ?_
              obtain ⟨hq1, hq2, hq3, hq4⟩ := qr_facts hq hr (by omega) (by omega)
              have hq6 := q_le (q := q) (d := d) hq4 (by omega)
              have hz : (a = 0 ∨ b = 0) → ma * mb = 0 := fun h => by rw [← hPb.2]; exact md_zero h
              refine J.run 28 K51_146 [(60, .bool (mode == 1)), (59, .int .i64 mode), (15, .bool false), (13, .int .u64 r), (12, .int .u64 q), (11, .int .u64 d), (10, .bool false)] w42 (by kernel_rfl) ?_
              refine J.head (.bool false) (congrArg Value.bool (beq_eq_false_iff_ne.2 fk1)) ?_
              refine J.run 6 K51_147 [(67, .bool (mode == 2)), (59, .int .i64 mode), (15, .bool false), (13, .int .u64 r), (12, .int .u64 q), (11, .int .u64 d), (10, .bool false)] w42 (by kernel_rfl) ?_
              refine J.head (.bool false) (congrArg Value.bool (beq_eq_false_iff_ne.2 fk22)) ?_
              refine J.run 6 K51_148 [(75, .bool (mode == 3)), (15, .bool false), (13, .int .u64 r), (12, .int .u64 q), (11, .int .u64 d), (10, .bool false)] w42 (by kernel_rfl) ?_
              refine J.head (.bool true) (congrArg Value.bool (beq_iff_eq.2 fk52)) ?_
              refine J.run 6 K51_149 [(80, .int .u64 (IntKind.wrap .u64 (d - r))), (77, .int .u64 r), (13, .int .u64 r), (12, .int .u64 q), (11, .int .u64 d), (10, .bool false)] w42 (by kernel_rfl) ?_
              refine J.head (.int .u64 (d - r)) (congrArg (Value.int .u64) (IntWalk.u64_in _ (by omega))) ?_
              refine J.run 2 K51_150 [(82, .bool (decide (r > (d - r)))), (13, .int .u64 r), (12, .int .u64 q), (11, .int .u64 d), (10, .bool false)] w42 (by kernel_rfl) ?_
              by_cases fk59 : r > (d - r)
              · skip
                refine J.head (.bool true) (congrArg Value.bool (decide_eq_true fk59)) ?_
                refine J.run 25 K51_151 [(95, .bool (q == 18446744073709551615)), (12, .int .u64 q), (10, .bool false)] w42 (by kernel_rfl) ?_
                by_cases fk60 : q = 18446744073709551615
                · skip
                  refine J.head (.bool true) (congrArg Value.bool (beq_iff_eq.2 fk60)) ?_
                  refine J.run 6 K51_152 [(9, .int .i64 9), (8, .int .i64 0)] w42 (by kernel_rfl) ?_
                  refine J.ret Tryd.f51 [.int .i64 0, .int .i64 9] Tryd.func51 ⟨by kernel_rfl, by kernel_rfl, trivial⟩ ?_
                  refine hR _ _ ?_
                  have hc0 : c ≠ 0 := by omega
                  subst hd
                  have e0 := md_core2 (a := a) (b := b) (c := c) (mode := mode) (q := q) (r := r) (m := false) hc0 (by omega) (by omega) (by omega) (by omega) (by omega) (.inr ⟨rfl, by omega⟩)
                  have e3 : mulDivR a b c mode = q + 1 := by rw [e0]; simp [rndB, tup_one, tup_two, tup_three, fk1, (beq_eq_false_iff_ne.2 fk1), (beq_eq_false_iff_ne.2 (Ne.symm fk1)), fk22, (beq_eq_false_iff_ne.2 fk22), (beq_eq_false_iff_ne.2 (Ne.symm fk22)), (beq_iff_eq.2 fk52), (beq_iff_eq.2 (Eq.symm fk52)), (Eq.symm fk52), fk53, (beq_eq_false_iff_ne.2 fk53), (beq_eq_false_iff_ne.2 (Ne.symm fk53)), (beq_iff_eq.2 fk54), (beq_iff_eq.2 (Eq.symm fk54)), (Eq.symm fk54), fk55, (decide_eq_false fk55), fk59, (decide_eq_true fk59), (beq_iff_eq.2 fk60), (beq_iff_eq.2 (Eq.symm fk60)), (Eq.symm fk60)] <;> omega
                  have e1 := md_unfit (by omega) hc0 e3 (by omega)
                  exact ⟨by rw [tup_two, mdV, e1.1, e1.2], S42.nil⟩
                · skip
                  refine J.head (.bool false) (congrArg Value.bool (beq_eq_false_iff_ne.2 fk60)) ?_
                  refine J.run 5 K51_153 [(97, .int .u64 (IntKind.wrap .u64 (q + 1))), (10, .bool false)] w42 (by kernel_rfl) ?_
                  refine J.head (.int .u64 (q + 1)) (congrArg (Value.int .u64) (IntWalk.u64_in _ (by omega))) ?_
                  refine J.run 15 K51_154 [(105, .bool (decide ((q + 1) ≥ 9223372036854775808))), (12, .int .u64 (q + 1))] w42 (by kernel_rfl) ?_
                  by_cases fk61 : (q + 1) ≥ 9223372036854775808
                  · skip
                    refine J.head (.bool true) (congrArg Value.bool (decide_eq_true fk61)) ?_
                    refine J.run 6 K51_155 [(9, .int .i64 9), (8, .int .i64 0)] w42 (by kernel_rfl) ?_
                    refine J.ret Tryd.f51 [.int .i64 0, .int .i64 9] Tryd.func51 ⟨by kernel_rfl, by kernel_rfl, trivial⟩ ?_
                    refine hR _ _ ?_
                    have hc0 : c ≠ 0 := by omega
                    subst hd
                    have e0 := md_core2 (a := a) (b := b) (c := c) (mode := mode) (q := q) (r := r) (m := false) hc0 (by omega) (by omega) (by omega) (by omega) (by omega) (.inr ⟨rfl, by omega⟩)
                    have e3 : mulDivR a b c mode = q + 1 := by rw [e0]; simp [rndB, tup_one, tup_two, tup_three, fk1, (beq_eq_false_iff_ne.2 fk1), (beq_eq_false_iff_ne.2 (Ne.symm fk1)), fk22, (beq_eq_false_iff_ne.2 fk22), (beq_eq_false_iff_ne.2 (Ne.symm fk22)), (beq_iff_eq.2 fk52), (beq_iff_eq.2 (Eq.symm fk52)), (Eq.symm fk52), fk53, (beq_eq_false_iff_ne.2 fk53), (beq_eq_false_iff_ne.2 (Ne.symm fk53)), (beq_iff_eq.2 fk54), (beq_iff_eq.2 (Eq.symm fk54)), (Eq.symm fk54), fk55, (decide_eq_false fk55), fk59, (decide_eq_true fk59), fk60, (beq_eq_false_iff_ne.2 fk60), (beq_eq_false_iff_ne.2 (Ne.symm fk60)), fk61, (decide_eq_true fk61)] <;> omega
                    have e1 := md_unfit (by omega) hc0 e3 (by omega)
                    exact ⟨by rw [tup_two, mdV, e1.1, e1.2], S42.nil⟩
                  · skip
                    refine J.head (.bool false) (congrArg Value.bool (decide_eq_false fk61)) ?_
                    refine J.run 6 K51_156 [(107, .int .i64 (IntKind.wrap .i64 (q + 1)))] w42 (by kernel_rfl) ?_
                    refine J.head (.int .i64 (q + 1)) (congrArg (Value.int .i64) (IntWalk.i64_in _ (by omega))) ?_
                    refine J.run 3 K51_157 [(9, .int .i64 0), (8, .int .i64 (q + 1))] w42 (by kernel_rfl) ?_
                    refine J.ret Tryd.f51 [.int .i64 (q + 1), .int .i64 0] Tryd.func51 ⟨by kernel_rfl, by kernel_rfl, trivial⟩ ?_
                    refine hR _ _ ?_
                    have hc0 : c ≠ 0 := by omega
                    subst hd
                    have e0 := md_core2 (a := a) (b := b) (c := c) (mode := mode) (q := q) (r := r) (m := false) hc0 (by omega) (by omega) (by omega) (by omega) (by omega) (.inr ⟨rfl, by omega⟩)
                    have e3 : mulDivR a b c mode = q + 1 := by rw [e0]; simp [rndB, tup_one, tup_two, tup_three, fk1, (beq_eq_false_iff_ne.2 fk1), (beq_eq_false_iff_ne.2 (Ne.symm fk1)), fk22, (beq_eq_false_iff_ne.2 fk22), (beq_eq_false_iff_ne.2 (Ne.symm fk22)), (beq_iff_eq.2 fk52), (beq_iff_eq.2 (Eq.symm fk52)), (Eq.symm fk52), fk53, (beq_eq_false_iff_ne.2 fk53), (beq_eq_false_iff_ne.2 (Ne.symm fk53)), (beq_iff_eq.2 fk54), (beq_iff_eq.2 (Eq.symm fk54)), (Eq.symm fk54), fk55, (decide_eq_false fk55), fk59, (decide_eq_true fk59), fk60, (beq_eq_false_iff_ne.2 fk60), (beq_eq_false_iff_ne.2 (Ne.symm fk60)), fk61, (decide_eq_false fk61)] <;> omega
                    have e1 := md_fit (by omega) hc0 e3 (by omega)
                    exact ⟨by rw [tup_two, mdV, e1.1, e1.2], S42.nil⟩
              · skip
                refine J.head (.bool false) (congrArg Value.bool (decide_eq_false fk59)) ?_
                refine J.run 4 K51_158 [(86, .int .u64 (IntKind.wrap .u64 (d - r))), (83, .int .u64 r), (82, .bool false), (12, .int .u64 q), (10, .bool false)] w42 (by kernel_rfl) ?_
                refine J.head (.int .u64 (d - r)) (congrArg (Value.int .u64) (IntWalk.u64_in _ (by omega))) ?_
                refine J.run 2 K51_159 [(88, .bool (r == (d - r))), (82, .bool false), (12, .int .u64 q), (10, .bool false)] w42 (by kernel_rfl) ?_
                by_cases fk62 : r = (d - r)
                · skip
                  refine J.head (.bool true) (congrArg Value.bool (beq_iff_eq.2 fk62)) ?_
                  refine J.run 19 K51_160 [(95, .bool (q == 18446744073709551615)), (12, .int .u64 q), (10, .bool false)] w42 (by kernel_rfl) ?_
                  by_cases fk63 : q = 18446744073709551615
                  · skip
                    refine J.head (.bool true) (congrArg Value.bool (beq_iff_eq.2 fk63)) ?_
                    refine J.run 6 K51_161 [(9, .int .i64 9), (8, .int .i64 0)] w42 (by kernel_rfl) ?_
                    refine J.ret Tryd.f51 [.int .i64 0, .int .i64 9] Tryd.func51 ⟨by kernel_rfl, by kernel_rfl, trivial⟩ ?_
                    refine hR _ _ ?_
                    have hc0 : c ≠ 0 := by omega
                    subst hd
                    have e0 := md_core2 (a := a) (b := b) (c := c) (mode := mode) (q := q) (r := r) (m := false) hc0 (by omega) (by omega) (by omega) (by omega) (by omega) (.inr ⟨rfl, by omega⟩)
                    have e3 : mulDivR a b c mode = q + 1 := by rw [e0]; simp [rndB, tup_one, tup_two, tup_three, fk1, (beq_eq_false_iff_ne.2 fk1), (beq_eq_false_iff_ne.2 (Ne.symm fk1)), fk22, (beq_eq_false_iff_ne.2 fk22), (beq_eq_false_iff_ne.2 (Ne.symm fk22)), (beq_iff_eq.2 fk52), (beq_iff_eq.2 (Eq.symm fk52)), (Eq.symm fk52), fk53, (beq_eq_false_iff_ne.2 fk53), (beq_eq_false_iff_ne.2 (Ne.symm fk53)), (beq_iff_eq.2 fk54), (beq_iff_eq.2 (Eq.symm fk54)), (Eq.symm fk54), fk55, (decide_eq_false fk55), fk59, (decide_eq_false fk59), (beq_iff_eq.2 fk62), (beq_iff_eq.2 (Eq.symm fk62)), (Eq.symm fk62), (beq_iff_eq.2 fk63), (beq_iff_eq.2 (Eq.symm fk63)), (Eq.symm fk63)] <;> omega
                    have e1 := md_unfit (by omega) hc0 e3 (by omega)
                    exact ⟨by rw [tup_two, mdV, e1.1, e1.2], S42.nil⟩
                  · skip
                    refine J.head (.bool false) (congrArg Value.bool (beq_eq_false_iff_ne.2 fk63)) ?_
                    refine J.run 5 K51_162 [(97, .int .u64 (IntKind.wrap .u64 (q + 1))), (10, .bool false)] w42 (by kernel_rfl) ?_
                    refine J.head (.int .u64 (q + 1)) (congrArg (Value.int .u64) (IntWalk.u64_in _ (by omega))) ?_
                    refine J.run 15 K51_163 [(105, .bool (decide ((q + 1) ≥ 9223372036854775808))), (12, .int .u64 (q + 1))] w42 (by kernel_rfl) ?_
                    by_cases fk64 : (q + 1) ≥ 9223372036854775808
                    · skip
                      refine J.head (.bool true) (congrArg Value.bool (decide_eq_true fk64)) ?_
                      refine J.run 6 K51_164 [(9, .int .i64 9), (8, .int .i64 0)] w42 (by kernel_rfl) ?_
                      refine J.ret Tryd.f51 [.int .i64 0, .int .i64 9] Tryd.func51 ⟨by kernel_rfl, by kernel_rfl, trivial⟩ ?_
                      refine hR _ _ ?_
                      have hc0 : c ≠ 0 := by omega
                      subst hd
                      have e0 := md_core2 (a := a) (b := b) (c := c) (mode := mode) (q := q) (r := r) (m := false) hc0 (by omega) (by omega) (by omega) (by omega) (by omega) (.inr ⟨rfl, by omega⟩)
                      have e3 : mulDivR a b c mode = q + 1 := by rw [e0]; simp [rndB, tup_one, tup_two, tup_three, fk1, (beq_eq_false_iff_ne.2 fk1), (beq_eq_false_iff_ne.2 (Ne.symm fk1)), fk22, (beq_eq_false_iff_ne.2 fk22), (beq_eq_false_iff_ne.2 (Ne.symm fk22)), (beq_iff_eq.2 fk52), (beq_iff_eq.2 (Eq.symm fk52)), (Eq.symm fk52), fk53, (beq_eq_false_iff_ne.2 fk53), (beq_eq_false_iff_ne.2 (Ne.symm fk53)), (beq_iff_eq.2 fk54), (beq_iff_eq.2 (Eq.symm fk54)), (Eq.symm fk54), fk55, (decide_eq_false fk55), fk59, (decide_eq_false fk59), (beq_iff_eq.2 fk62), (beq_iff_eq.2 (Eq.symm fk62)), (Eq.symm fk62), fk63, (beq_eq_false_iff_ne.2 fk63), (beq_eq_false_iff_ne.2 (Ne.symm fk63)), fk64, (decide_eq_true fk64)] <;> omega
                      have e1 := md_unfit (by omega) hc0 e3 (by omega)
                      exact ⟨by rw [tup_two, mdV, e1.1, e1.2], S42.nil⟩
                    · skip
                      refine J.head (.bool false) (congrArg Value.bool (decide_eq_false fk64)) ?_
                      refine J.run 6 K51_165 [(107, .int .i64 (IntKind.wrap .i64 (q + 1)))] w42 (by kernel_rfl) ?_
                      refine J.head (.int .i64 (q + 1)) (congrArg (Value.int .i64) (IntWalk.i64_in _ (by omega))) ?_
                      refine J.run 3 K51_166 [(9, .int .i64 0), (8, .int .i64 (q + 1))] w42 (by kernel_rfl) ?_
                      refine J.ret Tryd.f51 [.int .i64 (q + 1), .int .i64 0] Tryd.func51 ⟨by kernel_rfl, by kernel_rfl, trivial⟩ ?_
                      refine hR _ _ ?_
                      have hc0 : c ≠ 0 := by omega
                      subst hd
                      have e0 := md_core2 (a := a) (b := b) (c := c) (mode := mode) (q := q) (r := r) (m := false) hc0 (by omega) (by omega) (by omega) (by omega) (by omega) (.inr ⟨rfl, by omega⟩)
                      have e3 : mulDivR a b c mode = q + 1 := by rw [e0]; simp [rndB, tup_one, tup_two, tup_three, fk1, (beq_eq_false_iff_ne.2 fk1), (beq_eq_false_iff_ne.2 (Ne.symm fk1)), fk22, (beq_eq_false_iff_ne.2 fk22), (beq_eq_false_iff_ne.2 (Ne.symm fk22)), (beq_iff_eq.2 fk52), (beq_iff_eq.2 (Eq.symm fk52)), (Eq.symm fk52), fk53, (beq_eq_false_iff_ne.2 fk53), (beq_eq_false_iff_ne.2 (Ne.symm fk53)), (beq_iff_eq.2 fk54), (beq_iff_eq.2 (Eq.symm fk54)), (Eq.symm fk54), fk55, (decide_eq_false fk55), fk59, (decide_eq_false fk59), (beq_iff_eq.2 fk62), (beq_iff_eq.2 (Eq.symm fk62)), (Eq.symm fk62), fk63, (beq_eq_false_iff_ne.2 fk63), (beq_eq_false_iff_ne.2 (Ne.symm fk63)), fk64, (decide_eq_false fk64)] <;> omega
                      have e1 := md_fit (by omega) hc0 e3 (by omega)
                      exact ⟨by rw [tup_two, mdV, e1.1, e1.2], S42.nil⟩
                · skip
                  refine J.head (.bool false) (congrArg Value.bool (beq_eq_false_iff_ne.2 fk62)) ?_
                  refine J.run 27 K51_167 [(105, .bool (decide (q ≥ 9223372036854775808))), (12, .int .u64 q)] w42 (by kernel_rfl) ?_
                  by_cases fk65 : q ≥ 9223372036854775808
                  · skip
                    refine J.head (.bool true) (congrArg Value.bool (decide_eq_true fk65)) ?_
                    refine J.run 6 K51_168 [(9, .int .i64 9), (8, .int .i64 0)] w42 (by kernel_rfl) ?_
                    refine J.ret Tryd.f51 [.int .i64 0, .int .i64 9] Tryd.func51 ⟨by kernel_rfl, by kernel_rfl, trivial⟩ ?_
                    refine hR _ _ ?_
                    have hc0 : c ≠ 0 := by omega
                    subst hd
                    have e0 := md_core2 (a := a) (b := b) (c := c) (mode := mode) (q := q) (r := r) (m := false) hc0 (by omega) (by omega) (by omega) (by omega) (by omega) (.inr ⟨rfl, by omega⟩)
                    have e3 : mulDivR a b c mode = q := by rw [e0]; simp [rndB, tup_one, tup_two, tup_three, fk1, (beq_eq_false_iff_ne.2 fk1), (beq_eq_false_iff_ne.2 (Ne.symm fk1)), fk22, (beq_eq_false_iff_ne.2 fk22), (beq_eq_false_iff_ne.2 (Ne.symm fk22)), (beq_iff_eq.2 fk52), (beq_iff_eq.2 (Eq.symm fk52)), (Eq.symm fk52), fk53, (beq_eq_false_iff_ne.2 fk53), (beq_eq_false_iff_ne.2 (Ne.symm fk53)), (beq_iff_eq.2 fk54), (beq_iff_eq.2 (Eq.symm fk54)), (Eq.symm fk54), fk55, (decide_eq_false fk55), fk59, (decide_eq_false fk59), fk62, (beq_eq_false_iff_ne.2 fk62), (beq_eq_false_iff_ne.2 (Ne.symm fk62)), fk65, (decide_eq_true fk65)] <;> omega
                    have e1 := md_unfit (by omega) hc0 e3 (by omega)
                    exact ⟨by rw [tup_two, mdV, e1.1, e1.2], S42.nil⟩
                  · skip
                    refine J.head (.bool false) (congrArg Value.bool (decide_eq_false fk65)) ?_
                    refine J.run 6 K51_169 [(107, .int .i64 (IntKind.wrap .i64 q))] w42 (by kernel_rfl) ?_
                    refine J.head (.int .i64 q) (congrArg (Value.int .i64) (IntWalk.i64_in _ (by omega))) ?_
                    refine J.run 3 K51_170 [(9, .int .i64 0), (8, .int .i64 q)] w42 (by kernel_rfl) ?_
                    refine J.ret Tryd.f51 [.int .i64 q, .int .i64 0] Tryd.func51 ⟨by kernel_rfl, by kernel_rfl, trivial⟩ ?_
                    refine hR _ _ ?_
                    have hc0 : c ≠ 0 := by omega
                    subst hd
                    have e0 := md_core2 (a := a) (b := b) (c := c) (mode := mode) (q := q) (r := r) (m := false) hc0 (by omega) (by omega) (by omega) (by omega) (by omega) (.inr ⟨rfl, by omega⟩)
                    have e3 : mulDivR a b c mode = q := by rw [e0]; simp [rndB, tup_one, tup_two, tup_three, fk1, (beq_eq_false_iff_ne.2 fk1), (beq_eq_false_iff_ne.2 (Ne.symm fk1)), fk22, (beq_eq_false_iff_ne.2 fk22), (beq_eq_false_iff_ne.2 (Ne.symm fk22)), (beq_iff_eq.2 fk52), (beq_iff_eq.2 (Eq.symm fk52)), (Eq.symm fk52), fk53, (beq_eq_false_iff_ne.2 fk53), (beq_eq_false_iff_ne.2 (Ne.symm fk53)), (beq_iff_eq.2 fk54), (beq_iff_eq.2 (Eq.symm fk54)), (Eq.symm fk54), fk55, (decide_eq_false fk55), fk59, (decide_eq_false fk59), fk62, (beq_eq_false_iff_ne.2 fk62), (beq_eq_false_iff_ne.2 (Ne.symm fk62)), fk65, (decide_eq_false fk65)] <;> omega
                    have e1 := md_fit (by omega) hc0 e3 (by omega)
                    exact ⟨by rw [tup_two, mdV, e1.1, e1.2], S42.nil⟩
          · skip
            refine J.head (.bool true) (congrArg Value.bool (bne_iff_ne.2 fk54)) ?_
            refine J.run 4 K51_171 [(34, .bool (b != 0)), (0, .int .i64 a), (1, .int .i64 b), (2, .int .i64 c), (3, .int .i64 mode)] w (by kernel_rfl) ?_
            by_cases fk66 : b = 0
            · skip
              refine J.head (.bool false) (congrArg Value.bool (bne_eq_false_iff_eq.2 fk66)) ?_
              refine J.run 14 K51_172 [(44, .int .i64 c), (10, .bool false), (0, .int .i64 a), (1, .int .i64 b), (3, .int .i64 mode)] w (by kernel_rfl) ?_
              have := mag_le c (by omega)
              refine J.callF 45 61 #[.int .i64 c] hb61 (by kernel_rfl) (size_any c _ (by omega)) ?_
              rintro _ w43 ⟨rfl, T43⟩
              have S43 : Sep w [] w43 := S0.trans T43
              clear T43
              obtain ⟨d, hd⟩ : ∃ x : Int, x = magF c := ⟨_, rfl⟩
              refine J.head (.int .u64 d) (congrArg (Value.int .u64) hd.symm) ?_
              refine J.run 5 K51_173 [(47, .int .i64 a), (11, .int .u64 d), (10, .bool false), (1, .int .i64 b), (3, .int .i64 mode)] w43 (by kernel_rfl) ?_
              have := mag_le a (by omega)
              refine J.callF 48 61 #[.int .i64 a] hb61 (by kernel_rfl) (size_any a _ (by omega)) ?_
              rintro _ w44 ⟨rfl, T44⟩
              have S44 : Sep w [] w44 := S43.trans T44
              clear T44 S43
              obtain ⟨ma, hma⟩ : ∃ x : Int, x = magF a := ⟨_, rfl⟩
              refine J.head (.int .u64 ma) (congrArg (Value.int .u64) hma.symm) ?_
              refine J.run 1 K51_174 [(49, .int .i64 b), (48, .int .u64 ma), (11, .int .u64 d), (10, .bool false), (3, .int .i64 mode)] w44 (by kernel_rfl) ?_
              have := mag_le b (by omega)
              refine J.callF 50 61 #[.int .i64 b] hb61 (by kernel_rfl) (size_any b _ (by omega)) ?_
              rintro _ w45 ⟨rfl, T45⟩
              have S45 : Sep w [] w45 := S44.trans T45
              clear T45 S44
              obtain ⟨mb, hmb⟩ : ∃ x : Int, x = magF b := ⟨_, rfl⟩
              refine J.head (.int .u64 mb) (congrArg (Value.int .u64) hmb.symm) ?_
              have hPb0 : 0 ≤ magF a * magF b := Int.mul_nonneg (by unfold magF; omega) (by unfold magF; omega)
              have hPb : 0 ≤ magF a * magF b ∧ magF a * magF b = ma * mb := ⟨hPb0, by rw [hma, hmb]⟩
              have hmx := mul_max (x := ma) (y := mb) (by omega) (by omega)
              refine J.callF 51 67 #[.int .u64 ma, .int .u64 mb] hb67 (by kernel_rfl) (times_any ma mb _ (by omega) (by omega)) ?_
              rintro _ w46 ⟨rfl, T46⟩
              have S46 : Sep w [] w46 := S45.trans T46
              clear T46 S45
              refine J.run 1 K51_175 [(52, .int .u64 d), (51, .agg #[.int .u64 (ma * mb / 18446744073709551616), .int .u64 (ma * mb % 18446744073709551616)]), (11, .int .u64 d), (10, .bool false), (3, .int .i64 mode)] w46 (by kernel_rfl) ?_
              by_cases fk67 : d ≤ (ma * mb / 18446744073709551616)
              · skip
                refine J.callF 53 66 #[.agg #[.int .u64 (ma * mb / 18446744073709551616), .int .u64 (ma * mb % 18446744073709551616)], .int .u64 d] hb66 (by kernel_rfl) (over_any (ma * mb / 18446744073709551616) (ma * mb % 18446744073709551616) d _ (by omega) (by omega) (by omega)) ?_
                rintro _ w47 ⟨rfl, T47⟩
                have S47 : Sep w [] w47 := S46.trans T47
                clear T47 S46
                refine J.head (.tuple #[.int .u64 0, .int .u64 0, .bool false]) (by first | (simp only [overV, fk67, reduceCtorEq, ↓reduceIte]; done) | simp [overV, fk67]) ?_
                refine J.run 20 K51_176 [(9, .int .i64 9), (8, .int .i64 0)] w47 (by kernel_rfl) ?_
                refine J.ret Tryd.f51 [.int .i64 0, .int .i64 9] Tryd.func51 ⟨by kernel_rfl, by kernel_rfl, trivial⟩ ?_
                refine hR _ _ ?_
                have hc0 : c ≠ 0 := by omega
                have e1 := md_big (a := a) (b := b) (mode := mode) (by omega) hc0 hPb0 (by omega)
                exact ⟨by rw [tup_two, mdV, e1.1, e1.2], S47.nil⟩
              · skip
                refine J.callF 53 66 #[.agg #[.int .u64 (ma * mb / 18446744073709551616), .int .u64 (ma * mb % 18446744073709551616)], .int .u64 d] hb66 (by kernel_rfl) (over_any (ma * mb / 18446744073709551616) (ma * mb % 18446744073709551616) d _ (by omega) (by omega) (by omega)) ?_
                rintro _ w48 ⟨rfl, T48⟩
                have S48 : Sep w [] w48 := S46.trans T48
                clear T48 S46
                refine J.head (.tuple #[.int .u64 (((ma * mb / 18446744073709551616) * 18446744073709551616 + (ma * mb % 18446744073709551616)) / d), .int .u64 (((ma * mb / 18446744073709551616) * 18446744073709551616 + (ma * mb % 18446744073709551616)) % d), .bool true]) (by first | (simp only [overV, fk67, reduceCtorEq, ↓reduceIte]; done) | simp [overV, fk67]) ?_
                refine J.run 2 K51_177 [(54, .int .u64 (((ma * mb / 18446744073709551616) * 18446744073709551616 + (ma * mb % 18446744073709551616)) / d)), (46, .tuple #[.int .u64 (((ma * mb / 18446744073709551616) * 18446744073709551616 + (ma * mb % 18446744073709551616)) / d), .int .u64 (((ma * mb / 18446744073709551616) * 18446744073709551616 + (ma * mb % 18446744073709551616)) % d), .bool true]), (11, .int .u64 d), (10, .bool false), (3, .int .i64 mode)] w48 (by kernel_rfl) ?_
                obtain ⟨q, hq⟩ : ∃ x : Int, x = ((ma * mb / 18446744073709551616) * 18446744073709551616 + (ma * mb % 18446744073709551616)) / d := ⟨_, rfl⟩
                refine J.head (.int .u64 q) (congrArg (Value.int .u64) hq.symm) ?_
                have hq5 := q_top hq (by omega) (by omega)
                refine J.run 1 K51_178 [(55, .int .u64 (((ma * mb / 18446744073709551616) * 18446744073709551616 + (ma * mb % 18446744073709551616)) % d)), (54, .int .u64 q), (46, .tuple #[.int .u64 (((ma * mb / 18446744073709551616) * 18446744073709551616 + (ma * mb % 18446744073709551616)) / d), .int .u64 (((ma * mb / 18446744073709551616) * 18446744073709551616 + (ma * mb % 18446744073709551616)) % d), .bool true]), (11, .int .u64 d), (10, .bool false), (3, .int .i64 mode)] w48 (by kernel_rfl) ?_
                obtain ⟨r, hr⟩ : ∃ x : Int, x = ((ma * mb / 18446744073709551616) * 18446744073709551616 + (ma * mb % 18446744073709551616)) % d := ⟨_, rfl⟩
                refine J.head (.int .u64 r) (congrArg (Value.int .u64) hr.symm) ?_
                obtain ⟨hq1, hq2, hq3, hq4⟩ := qr_facts hq hr (by omega) (by omega)
                have hq6 := q_le (q := q) (d := d) hq4 (by omega)
                have hz : (a = 0 ∨ b = 0) → ma * mb = 0 := fun h => by rw [← hPb.2]; exact md_zero h
                refine J.run 28 K51_179 [(60, .bool (mode == 1)), (59, .int .i64 mode), (15, .bool false), (13, .int .u64 r), (12, .int .u64 q), (11, .int .u64 d), (10, .bool false)] w48 (by kernel_rfl) ?_
                refine J.head (.bool false) (congrArg Value.bool (beq_eq_false_iff_ne.2 fk1)) ?_
                refine J.run 6 K51_180 [(67, .bool (mode == 2)), (59, .int .i64 mode), (15, .bool false), (13, .int .u64 r), (12, .int .u64 q), (11, .int .u64 d), (10, .bool false)] w48 (by kernel_rfl) ?_
                refine J.head (.bool false) (congrArg Value.bool (beq_eq_false_iff_ne.2 fk22)) ?_
                refine J.run 6 K51_181 [(75, .bool (mode == 3)), (15, .bool false), (13, .int .u64 r), (12, .int .u64 q), (11, .int .u64 d), (10, .bool false)] w48 (by kernel_rfl) ?_
                refine J.head (.bool true) (congrArg Value.bool (beq_iff_eq.2 fk52)) ?_
                refine J.run 6 K51_182 [(80, .int .u64 (IntKind.wrap .u64 (d - r))), (77, .int .u64 r), (13, .int .u64 r), (12, .int .u64 q), (11, .int .u64 d), (10, .bool false)] w48 (by kernel_rfl) ?_
                refine J.head (.int .u64 (d - r)) (congrArg (Value.int .u64) (IntWalk.u64_in _ (by omega))) ?_
                refine J.run 2 K51_183 [(82, .bool (decide (r > (d - r)))), (13, .int .u64 r), (12, .int .u64 q), (11, .int .u64 d), (10, .bool false)] w48 (by kernel_rfl) ?_
                by_cases fk71 : r > (d - r)
                · skip
                  refine J.head (.bool true) (congrArg Value.bool (decide_eq_true fk71)) ?_
                  refine J.run 25 K51_184 [(95, .bool (q == 18446744073709551615)), (12, .int .u64 q), (10, .bool false)] w48 (by kernel_rfl) ?_
                  by_cases fk72 : q = 18446744073709551615
                  · skip
                    refine J.head (.bool true) (congrArg Value.bool (beq_iff_eq.2 fk72)) ?_
                    refine J.run 6 K51_185 [(9, .int .i64 9), (8, .int .i64 0)] w48 (by kernel_rfl) ?_
                    refine J.ret Tryd.f51 [.int .i64 0, .int .i64 9] Tryd.func51 ⟨by kernel_rfl, by kernel_rfl, trivial⟩ ?_
                    refine hR _ _ ?_
                    have hc0 : c ≠ 0 := by omega
                    subst hd
                    have e0 := md_core2 (a := a) (b := b) (c := c) (mode := mode) (q := q) (r := r) (m := false) hc0 (by omega) (by omega) (by omega) (by omega) (by omega) (.inr ⟨rfl, by omega⟩)
                    have e3 : mulDivR a b c mode = q + 1 := by rw [e0]; simp [rndB, tup_one, tup_two, tup_three, fk1, (beq_eq_false_iff_ne.2 fk1), (beq_eq_false_iff_ne.2 (Ne.symm fk1)), fk22, (beq_eq_false_iff_ne.2 fk22), (beq_eq_false_iff_ne.2 (Ne.symm fk22)), (beq_iff_eq.2 fk52), (beq_iff_eq.2 (Eq.symm fk52)), (Eq.symm fk52), fk53, (beq_eq_false_iff_ne.2 fk53), (beq_eq_false_iff_ne.2 (Ne.symm fk53)), fk54, (beq_eq_false_iff_ne.2 fk54), (beq_eq_false_iff_ne.2 (Ne.symm fk54)), (beq_iff_eq.2 fk66), (beq_iff_eq.2 (Eq.symm fk66)), (Eq.symm fk66), fk67, (decide_eq_false fk67), fk71, (decide_eq_true fk71), (beq_iff_eq.2 fk72), (beq_iff_eq.2 (Eq.symm fk72)), (Eq.symm fk72)] <;> omega
                    have e1 := md_unfit (by omega) hc0 e3 (by omega)
                    exact ⟨by rw [tup_two, mdV, e1.1, e1.2], S48.nil⟩
                  · skip
                    refine J.head (.bool false) (congrArg Value.bool (beq_eq_false_iff_ne.2 fk72)) ?_
                    refine J.run 5 K51_186 [(97, .int .u64 (IntKind.wrap .u64 (q + 1))), (10, .bool false)] w48 (by kernel_rfl) ?_
                    refine J.head (.int .u64 (q + 1)) (congrArg (Value.int .u64) (IntWalk.u64_in _ (by omega))) ?_
                    refine J.run 15 K51_187 [(105, .bool (decide ((q + 1) ≥ 9223372036854775808))), (12, .int .u64 (q + 1))] w48 (by kernel_rfl) ?_
                    by_cases fk73 : (q + 1) ≥ 9223372036854775808
                    · skip
                      refine J.head (.bool true) (congrArg Value.bool (decide_eq_true fk73)) ?_
                      refine J.run 6 K51_188 [(9, .int .i64 9), (8, .int .i64 0)] w48 (by kernel_rfl) ?_
                      refine J.ret Tryd.f51 [.int .i64 0, .int .i64 9] Tryd.func51 ⟨by kernel_rfl, by kernel_rfl, trivial⟩ ?_
                      refine hR _ _ ?_
                      have hc0 : c ≠ 0 := by omega
                      subst hd
                      have e0 := md_core2 (a := a) (b := b) (c := c) (mode := mode) (q := q) (r := r) (m := false) hc0 (by omega) (by omega) (by omega) (by omega) (by omega) (.inr ⟨rfl, by omega⟩)
                      have e3 : mulDivR a b c mode = q + 1 := by rw [e0]; simp [rndB, tup_one, tup_two, tup_three, fk1, (beq_eq_false_iff_ne.2 fk1), (beq_eq_false_iff_ne.2 (Ne.symm fk1)), fk22, (beq_eq_false_iff_ne.2 fk22), (beq_eq_false_iff_ne.2 (Ne.symm fk22)), (beq_iff_eq.2 fk52), (beq_iff_eq.2 (Eq.symm fk52)), (Eq.symm fk52), fk53, (beq_eq_false_iff_ne.2 fk53), (beq_eq_false_iff_ne.2 (Ne.symm fk53)), fk54, (beq_eq_false_iff_ne.2 fk54), (beq_eq_false_iff_ne.2 (Ne.symm fk54)), (beq_iff_eq.2 fk66), (beq_iff_eq.2 (Eq.symm fk66)), (Eq.symm fk66), fk67, (decide_eq_false fk67), fk71, (decide_eq_true fk71), fk72, (beq_eq_false_iff_ne.2 fk72), (beq_eq_false_iff_ne.2 (Ne.symm fk72)), fk73, (decide_eq_true fk73)] <;> omega
                      have e1 := md_unfit (by omega) hc0 e3 (by omega)
                      exact ⟨by rw [tup_two, mdV, e1.1, e1.2], S48.nil⟩
                    · skip
                      refine J.head (.bool false) (congrArg Value.bool (decide_eq_false fk73)) ?_
                      refine J.run 6 K51_189 [(107, .int .i64 (IntKind.wrap .i64 (q + 1)))] w48 (by kernel_rfl) ?_
                      refine J.head (.int .i64 (q + 1)) (congrArg (Value.int .i64) (IntWalk.i64_in _ (by omega))) ?_
                      refine J.run 3 K51_190 [(9, .int .i64 0), (8, .int .i64 (q + 1))] w48 (by kernel_rfl) ?_
                      refine J.ret Tryd.f51 [.int .i64 (q + 1), .int .i64 0] Tryd.func51 ⟨by kernel_rfl, by kernel_rfl, trivial⟩ ?_
                      refine hR _ _ ?_
                      have hc0 : c ≠ 0 := by omega
                      subst hd
                      have e0 := md_core2 (a := a) (b := b) (c := c) (mode := mode) (q := q) (r := r) (m := false) hc0 (by omega) (by omega) (by omega) (by omega) (by omega) (.inr ⟨rfl, by omega⟩)
                      have e3 : mulDivR a b c mode = q + 1 := by rw [e0]; simp [rndB, tup_one, tup_two, tup_three, fk1, (beq_eq_false_iff_ne.2 fk1), (beq_eq_false_iff_ne.2 (Ne.symm fk1)), fk22, (beq_eq_false_iff_ne.2 fk22), (beq_eq_false_iff_ne.2 (Ne.symm fk22)), (beq_iff_eq.2 fk52), (beq_iff_eq.2 (Eq.symm fk52)), (Eq.symm fk52), fk53, (beq_eq_false_iff_ne.2 fk53), (beq_eq_false_iff_ne.2 (Ne.symm fk53)), fk54, (beq_eq_false_iff_ne.2 fk54), (beq_eq_false_iff_ne.2 (Ne.symm fk54)), (beq_iff_eq.2 fk66), (beq_iff_eq.2 (Eq.symm fk66)), (Eq.symm fk66), fk67, (decide_eq_false fk67), fk71, (decide_eq_true fk71), fk72, (beq_eq_false_iff_ne.2 fk72), (beq_eq_false_iff_ne.2 (Ne.symm fk72)), fk73, (decide_eq_false fk73)] <;> omega
                      have e1 := md_fit (by omega) hc0 e3 (by omega)
                      exact ⟨by rw [tup_two, mdV, e1.1, e1.2], S48.nil⟩
                · skip
                  refine J.head (.bool false) (congrArg Value.bool (decide_eq_false fk71)) ?_
                  refine J.run 4 K51_191 [(86, .int .u64 (IntKind.wrap .u64 (d - r))), (83, .int .u64 r), (82, .bool false), (12, .int .u64 q), (10, .bool false)] w48 (by kernel_rfl) ?_
                  refine J.head (.int .u64 (d - r)) (congrArg (Value.int .u64) (IntWalk.u64_in _ (by omega))) ?_
                  refine J.run 2 K51_192 [(88, .bool (r == (d - r))), (82, .bool false), (12, .int .u64 q), (10, .bool false)] w48 (by kernel_rfl) ?_
                  by_cases fk74 : r = (d - r)
                  · skip
                    refine J.head (.bool true) (congrArg Value.bool (beq_iff_eq.2 fk74)) ?_
                    refine J.run 19 K51_193 [(95, .bool (q == 18446744073709551615)), (12, .int .u64 q), (10, .bool false)] w48 (by kernel_rfl) ?_
                    by_cases fk75 : q = 18446744073709551615
                    · skip
                      refine J.head (.bool true) (congrArg Value.bool (beq_iff_eq.2 fk75)) ?_
                      refine J.run 6 K51_194 [(9, .int .i64 9), (8, .int .i64 0)] w48 (by kernel_rfl) ?_
                      refine J.ret Tryd.f51 [.int .i64 0, .int .i64 9] Tryd.func51 ⟨by kernel_rfl, by kernel_rfl, trivial⟩ ?_
                      refine hR _ _ ?_
                      have hc0 : c ≠ 0 := by omega
                      subst hd
                      have e0 := md_core2 (a := a) (b := b) (c := c) (mode := mode) (q := q) (r := r) (m := false) hc0 (by omega) (by omega) (by omega) (by omega) (by omega) (.inr ⟨rfl, by omega⟩)
                      have e3 : mulDivR a b c mode = q + 1 := by rw [e0]; simp [rndB, tup_one, tup_two, tup_three, fk1, (beq_eq_false_iff_ne.2 fk1), (beq_eq_false_iff_ne.2 (Ne.symm fk1)), fk22, (beq_eq_false_iff_ne.2 fk22), (beq_eq_false_iff_ne.2 (Ne.symm fk22)), (beq_iff_eq.2 fk52), (beq_iff_eq.2 (Eq.symm fk52)), (Eq.symm fk52), fk53, (beq_eq_false_iff_ne.2 fk53), (beq_eq_false_iff_ne.2 (Ne.symm fk53)), fk54, (beq_eq_false_iff_ne.2 fk54), (beq_eq_false_iff_ne.2 (Ne.symm fk54)), (beq_iff_eq.2 fk66), (beq_iff_eq.2 (Eq.symm fk66)), (Eq.symm fk66), fk67, (decide_eq_false fk67), fk71, (decide_eq_false fk71), (beq_iff_eq.2 fk74), (beq_iff_eq.2 (Eq.symm fk74)), (Eq.symm fk74), (beq_iff_eq.2 fk75), (beq_iff_eq.2 (Eq.symm fk75)), (Eq.symm fk75)] <;> omega
                      have e1 := md_unfit (by omega) hc0 e3 (by omega)
                      exact ⟨by rw [tup_two, mdV, e1.1, e1.2], S48.nil⟩
                    · skip
                      refine J.head (.bool false) (congrArg Value.bool (beq_eq_false_iff_ne.2 fk75)) ?_
                      refine J.run 5 K51_195 [(97, .int .u64 (IntKind.wrap .u64 (q + 1))), (10, .bool false)] w48 (by kernel_rfl) ?_
                      refine J.head (.int .u64 (q + 1)) (congrArg (Value.int .u64) (IntWalk.u64_in _ (by omega))) ?_
                      refine J.run 15 K51_196 [(105, .bool (decide ((q + 1) ≥ 9223372036854775808))), (12, .int .u64 (q + 1))] w48 (by kernel_rfl) ?_
                      by_cases fk76 : (q + 1) ≥ 9223372036854775808
                      · skip
                        refine J.head (.bool true) (congrArg Value.bool (decide_eq_true fk76)) ?_
                        refine J.run 6 K51_197 [(9, .int .i64 9), (8, .int .i64 0)] w48 (by kernel_rfl) ?_
                        refine J.ret Tryd.f51 [.int .i64 0, .int .i64 9] Tryd.func51 ⟨by kernel_rfl, by kernel_rfl, trivial⟩ ?_
                        refine hR _ _ ?_
                        have hc0 : c ≠ 0 := by omega
                        subst hd
                        have e0 := md_core2 (a := a) (b := b) (c := c) (mode := mode) (q := q) (r := r) (m := false) hc0 (by omega) (by omega) (by omega) (by omega) (by omega) (.inr ⟨rfl, by omega⟩)
                        have e3 : mulDivR a b c mode = q + 1 := by rw [e0]; simp [rndB, tup_one, tup_two, tup_three, fk1, (beq_eq_false_iff_ne.2 fk1), (beq_eq_false_iff_ne.2 (Ne.symm fk1)), fk22, (beq_eq_false_iff_ne.2 fk22), (beq_eq_false_iff_ne.2 (Ne.symm fk22)), (beq_iff_eq.2 fk52), (beq_iff_eq.2 (Eq.symm fk52)), (Eq.symm fk52), fk53, (beq_eq_false_iff_ne.2 fk53), (beq_eq_false_iff_ne.2 (Ne.symm fk53)), fk54, (beq_eq_false_iff_ne.2 fk54), (beq_eq_false_iff_ne.2 (Ne.symm fk54)), (beq_iff_eq.2 fk66), (beq_iff_eq.2 (Eq.symm fk66)), (Eq.symm fk66), fk67, (decide_eq_false fk67), fk71, (decide_eq_false fk71), (beq_iff_eq.2 fk74), (beq_iff_eq.2 (Eq.symm fk74)), (Eq.symm fk74), fk75, (beq_eq_false_iff_ne.2 fk75), (beq_eq_false_iff_ne.2 (Ne.symm fk75)), fk76, (decide_eq_true fk76)] <;> omega
                        have e1 := md_unfit (by omega) hc0 e3 (by omega)
                        exact ⟨by rw [tup_two, mdV, e1.1, e1.2], S48.nil⟩
                      · skip
                        refine J.head (.bool false) (congrArg Value.bool (decide_eq_false fk76)) ?_
                        refine J.run 6 K51_198 [(107, .int .i64 (IntKind.wrap .i64 (q + 1)))] w48 (by kernel_rfl) ?_
                        refine J.head (.int .i64 (q + 1)) (congrArg (Value.int .i64) (IntWalk.i64_in _ (by omega))) ?_
                        refine J.run 3 K51_199 [(9, .int .i64 0), (8, .int .i64 (q + 1))] w48 (by kernel_rfl) ?_
                        refine J.ret Tryd.f51 [.int .i64 (q + 1), .int .i64 0] Tryd.func51 ⟨by kernel_rfl, by kernel_rfl, trivial⟩ ?_
                        refine hR _ _ ?_
                        have hc0 : c ≠ 0 := by omega
                        subst hd
                        have e0 := md_core2 (a := a) (b := b) (c := c) (mode := mode) (q := q) (r := r) (m := false) hc0 (by omega) (by omega) (by omega) (by omega) (by omega) (.inr ⟨rfl, by omega⟩)
                        have e3 : mulDivR a b c mode = q + 1 := by rw [e0]; simp [rndB, tup_one, tup_two, tup_three, fk1, (beq_eq_false_iff_ne.2 fk1), (beq_eq_false_iff_ne.2 (Ne.symm fk1)), fk22, (beq_eq_false_iff_ne.2 fk22), (beq_eq_false_iff_ne.2 (Ne.symm fk22)), (beq_iff_eq.2 fk52), (beq_iff_eq.2 (Eq.symm fk52)), (Eq.symm fk52), fk53, (beq_eq_false_iff_ne.2 fk53), (beq_eq_false_iff_ne.2 (Ne.symm fk53)), fk54, (beq_eq_false_iff_ne.2 fk54), (beq_eq_false_iff_ne.2 (Ne.symm fk54)), (beq_iff_eq.2 fk66), (beq_iff_eq.2 (Eq.symm fk66)), (Eq.symm fk66), fk67, (decide_eq_false fk67), fk71, (decide_eq_false fk71), (beq_iff_eq.2 fk74), (beq_iff_eq.2 (Eq.symm fk74)), (Eq.symm fk74), fk75, (beq_eq_false_iff_ne.2 fk75), (beq_eq_false_iff_ne.2 (Ne.symm fk75)), fk76, (decide_eq_false fk76)] <;> omega
                        have e1 := md_fit (by omega) hc0 e3 (by omega)
                        exact ⟨by rw [tup_two, mdV, e1.1, e1.2], S48.nil⟩
                  · skip
                    refine J.head (.bool false) (congrArg Value.bool (beq_eq_false_iff_ne.2 fk74)) ?_
                    refine J.run 27 K51_200 [(105, .bool (decide (q ≥ 9223372036854775808))), (12, .int .u64 q)] w48 (by kernel_rfl) ?_
                    by_cases fk77 : q ≥ 9223372036854775808
                    · skip
                      refine J.head (.bool true) (congrArg Value.bool (decide_eq_true fk77)) ?_
                      refine J.run 6 K51_201 [(9, .int .i64 9), (8, .int .i64 0)] w48 (by kernel_rfl) ?_
                      refine J.ret Tryd.f51 [.int .i64 0, .int .i64 9] Tryd.func51 ⟨by kernel_rfl, by kernel_rfl, trivial⟩ ?_
                      refine hR _ _ ?_
                      have hc0 : c ≠ 0 := by omega
                      subst hd
                      have e0 := md_core2 (a := a) (b := b) (c := c) (mode := mode) (q := q) (r := r) (m := false) hc0 (by omega) (by omega) (by omega) (by omega) (by omega) (.inr ⟨rfl, by omega⟩)
                      have e3 : mulDivR a b c mode = q := by rw [e0]; simp [rndB, tup_one, tup_two, tup_three, fk1, (beq_eq_false_iff_ne.2 fk1), (beq_eq_false_iff_ne.2 (Ne.symm fk1)), fk22, (beq_eq_false_iff_ne.2 fk22), (beq_eq_false_iff_ne.2 (Ne.symm fk22)), (beq_iff_eq.2 fk52), (beq_iff_eq.2 (Eq.symm fk52)), (Eq.symm fk52), fk53, (beq_eq_false_iff_ne.2 fk53), (beq_eq_false_iff_ne.2 (Ne.symm fk53)), fk54, (beq_eq_false_iff_ne.2 fk54), (beq_eq_false_iff_ne.2 (Ne.symm fk54)), (beq_iff_eq.2 fk66), (beq_iff_eq.2 (Eq.symm fk66)), (Eq.symm fk66), fk67, (decide_eq_false fk67), fk71, (decide_eq_false fk71), fk74, (beq_eq_false_iff_ne.2 fk74), (beq_eq_false_iff_ne.2 (Ne.symm fk74)), fk77, (decide_eq_true fk77)] <;> omega
                      have e1 := md_unfit (by omega) hc0 e3 (by omega)
                      exact ⟨by rw [tup_two, mdV, e1.1, e1.2], S48.nil⟩
                    · skip
                      refine J.head (.bool false) (congrArg Value.bool (decide_eq_false fk77)) ?_
                      refine J.run 6 K51_202 [(107, .int .i64 (IntKind.wrap .i64 q))] w48 (by kernel_rfl) ?_
                      refine J.head (.int .i64 q) (congrArg (Value.int .i64) (IntWalk.i64_in _ (by omega))) ?_
                      refine J.run 3 K51_203 [(9, .int .i64 0), (8, .int .i64 q)] w48 (by kernel_rfl) ?_
                      refine J.ret Tryd.f51 [.int .i64 q, .int .i64 0] Tryd.func51 ⟨by kernel_rfl, by kernel_rfl, trivial⟩ ?_
                      refine hR _ _ ?_
                      have hc0 : c ≠ 0 := by omega
                      subst hd
                      have e0 := md_core2 (a := a) (b := b) (c := c) (mode := mode) (q := q) (r := r) (m := false) hc0 (by omega) (by omega) (by omega) (by omega) (by omega) (.inr ⟨rfl, by omega⟩)
                      have e3 : mulDivR a b c mode = q := by rw [e0]; simp [rndB, tup_one, tup_two, tup_three, fk1, (beq_eq_false_iff_ne.2 fk1), (beq_eq_false_iff_ne.2 (Ne.symm fk1)), fk22, (beq_eq_false_iff_ne.2 fk22), (beq_eq_false_iff_ne.2 (Ne.symm fk22)), (beq_iff_eq.2 fk52), (beq_iff_eq.2 (Eq.symm fk52)), (Eq.symm fk52), fk53, (beq_eq_false_iff_ne.2 fk53), (beq_eq_false_iff_ne.2 (Ne.symm fk53)), fk54, (beq_eq_false_iff_ne.2 fk54), (beq_eq_false_iff_ne.2 (Ne.symm fk54)), (beq_iff_eq.2 fk66), (beq_iff_eq.2 (Eq.symm fk66)), (Eq.symm fk66), fk67, (decide_eq_false fk67), fk71, (decide_eq_false fk71), fk74, (beq_eq_false_iff_ne.2 fk74), (beq_eq_false_iff_ne.2 (Ne.symm fk74)), fk77, (decide_eq_false fk77)] <;> omega
                      have e1 := md_fit (by omega) hc0 e3 (by omega)
                      exact ⟨by rw [tup_two, mdV, e1.1, e1.2], S48.nil⟩
            · skip
              refine J.head (.bool true) (congrArg Value.bool (bne_iff_ne.2 fk66)) ?_
              refine J.run 8 K51_204 [(42, .bool (!((!((decide (a < 0)) == (decide (b < 0)))) == (decide (c < 0))))), (34, .bool true), (0, .int .i64 a), (1, .int .i64 b), (2, .int .i64 c), (3, .int .i64 mode)] w (by kernel_rfl) ?_
              obtain ⟨m, hm⟩ : ∃ x : Bool, x = (!((!((decide (a < 0)) == (decide (b < 0)))) == (decide (c < 0)))) := ⟨_, rfl⟩
              refine J.head (.bool m) (congrArg Value.bool hm.symm) ?_
              have hm2 : m = negB a b c := hm
              refine J.run 6 K51_205 [(44, .int .i64 c), (10, .bool m), (0, .int .i64 a), (1, .int .i64 b), (3, .int .i64 mode)] w (by kernel_rfl) ?_
              have := mag_le c (by omega)
              refine J.callF 45 61 #[.int .i64 c] hb61 (by kernel_rfl) (size_any c _ (by omega)) ?_
              rintro _ w49 ⟨rfl, T49⟩
              have S49 : Sep w [] w49 := S0.trans T49
              clear T49
              obtain ⟨d, hd⟩ : ∃ x : Int, x = magF c := ⟨_, rfl⟩
              refine J.head (.int .u64 d) (congrArg (Value.int .u64) hd.symm) ?_
              refine J.run 5 K51_206 [(47, .int .i64 a), (11, .int .u64 d), (10, .bool m), (1, .int .i64 b), (3, .int .i64 mode)] w49 (by kernel_rfl) ?_
              have := mag_le a (by omega)
              refine J.callF 48 61 #[.int .i64 a] hb61 (by kernel_rfl) (size_any a _ (by omega)) ?_
              rintro _ w50 ⟨rfl, T50⟩
              have S50 : Sep w [] w50 := S49.trans T50
              clear T50 S49
              obtain ⟨ma, hma⟩ : ∃ x : Int, x = magF a := ⟨_, rfl⟩
              refine J.head (.int .u64 ma) (congrArg (Value.int .u64) hma.symm) ?_
              refine J.run 1 K51_207 [(49, .int .i64 b), (48, .int .u64 ma), (11, .int .u64 d), (10, .bool m), (3, .int .i64 mode)] w50 (by kernel_rfl) ?_
              have := mag_le b (by omega)
              refine J.callF 50 61 #[.int .i64 b] hb61 (by kernel_rfl) (size_any b _ (by omega)) ?_
              rintro _ w51 ⟨rfl, T51⟩
              have S51 : Sep w [] w51 := S50.trans T51
              clear T51 S50
              obtain ⟨mb, hmb⟩ : ∃ x : Int, x = magF b := ⟨_, rfl⟩
              refine J.head (.int .u64 mb) (congrArg (Value.int .u64) hmb.symm) ?_
              have hPb0 : 0 ≤ magF a * magF b := Int.mul_nonneg (by unfold magF; omega) (by unfold magF; omega)
              have hPb : 0 ≤ magF a * magF b ∧ magF a * magF b = ma * mb := ⟨hPb0, by rw [hma, hmb]⟩
              have hmx := mul_max (x := ma) (y := mb) (by omega) (by omega)
              refine J.callF 51 67 #[.int .u64 ma, .int .u64 mb] hb67 (by kernel_rfl) (times_any ma mb _ (by omega) (by omega)) ?_
              rintro _ w52 ⟨rfl, T52⟩
              have S52 : Sep w [] w52 := S51.trans T52
              clear T52 S51
              refine J.run 1 K51_208 [(52, .int .u64 d), (51, .agg #[.int .u64 (ma * mb / 18446744073709551616), .int .u64 (ma * mb % 18446744073709551616)]), (11, .int .u64 d), (10, .bool m), (3, .int .i64 mode)] w52 (by kernel_rfl) ?_
              by_cases fk78 : d ≤ (ma * mb / 18446744073709551616)
              · skip
                refine J.callF 53 66 #[.agg #[.int .u64 (ma * mb / 18446744073709551616), .int .u64 (ma * mb % 18446744073709551616)], .int .u64 d] hb66 (by kernel_rfl) (over_any (ma * mb / 18446744073709551616) (ma * mb % 18446744073709551616) d _ (by omega) (by omega) (by omega)) ?_
                rintro _ w53 ⟨rfl, T53⟩
                have S53 : Sep w [] w53 := S52.trans T53
                clear T53 S52
                refine J.head (.tuple #[.int .u64 0, .int .u64 0, .bool false]) (by first | (simp only [overV, fk78, reduceCtorEq, ↓reduceIte]; done) | simp [overV, fk78]) ?_
                refine J.run 20 K51_209 [(9, .int .i64 9), (8, .int .i64 0)] w53 (by kernel_rfl) ?_
                refine J.ret Tryd.f51 [.int .i64 0, .int .i64 9] Tryd.func51 ⟨by kernel_rfl, by kernel_rfl, trivial⟩ ?_
                refine hR _ _ ?_
                have hc0 : c ≠ 0 := by omega
                have e1 := md_big (a := a) (b := b) (mode := mode) (by omega) hc0 hPb0 (by omega)
                exact ⟨by rw [tup_two, mdV, e1.1, e1.2], S53.nil⟩
              · skip
                refine J.callF 53 66 #[.agg #[.int .u64 (ma * mb / 18446744073709551616), .int .u64 (ma * mb % 18446744073709551616)], .int .u64 d] hb66 (by kernel_rfl) (over_any (ma * mb / 18446744073709551616) (ma * mb % 18446744073709551616) d _ (by omega) (by omega) (by omega)) ?_
                rintro _ w54 ⟨rfl, T54⟩
                have S54 : Sep w [] w54 := S52.trans T54
                clear T54 S52
                refine J.head (.tuple #[.int .u64 (((ma * mb / 18446744073709551616) * 18446744073709551616 + (ma * mb % 18446744073709551616)) / d), .int .u64 (((ma * mb / 18446744073709551616) * 18446744073709551616 + (ma * mb % 18446744073709551616)) % d), .bool true]) (by first | (simp only [overV, fk78, reduceCtorEq, ↓reduceIte]; done) | simp [overV, fk78]) ?_
                refine J.run 2 K51_210 [(54, .int .u64 (((ma * mb / 18446744073709551616) * 18446744073709551616 + (ma * mb % 18446744073709551616)) / d)), (46, .tuple #[.int .u64 (((ma * mb / 18446744073709551616) * 18446744073709551616 + (ma * mb % 18446744073709551616)) / d), .int .u64 (((ma * mb / 18446744073709551616) * 18446744073709551616 + (ma * mb % 18446744073709551616)) % d), .bool true]), (11, .int .u64 d), (10, .bool m), (3, .int .i64 mode)] w54 (by kernel_rfl) ?_
                obtain ⟨q, hq⟩ : ∃ x : Int, x = ((ma * mb / 18446744073709551616) * 18446744073709551616 + (ma * mb % 18446744073709551616)) / d := ⟨_, rfl⟩
                refine J.head (.int .u64 q) (congrArg (Value.int .u64) hq.symm) ?_
                have hq5 := q_top hq (by omega) (by omega)
                refine J.run 1 K51_211 [(55, .int .u64 (((ma * mb / 18446744073709551616) * 18446744073709551616 + (ma * mb % 18446744073709551616)) % d)), (54, .int .u64 q), (46, .tuple #[.int .u64 (((ma * mb / 18446744073709551616) * 18446744073709551616 + (ma * mb % 18446744073709551616)) / d), .int .u64 (((ma * mb / 18446744073709551616) * 18446744073709551616 + (ma * mb % 18446744073709551616)) % d), .bool true]), (11, .int .u64 d), (10, .bool m), (3, .int .i64 mode)] w54 (by kernel_rfl) ?_
                obtain ⟨r, hr⟩ : ∃ x : Int, x = ((ma * mb / 18446744073709551616) * 18446744073709551616 + (ma * mb % 18446744073709551616)) % d := ⟨_, rfl⟩
                refine J.head (.int .u64 r) (congrArg (Value.int .u64) hr.symm) ?_
                obtain ⟨hq1, hq2, hq3, hq4⟩ := qr_facts hq hr (by omega) (by omega)
                have hq6 := q_le (q := q) (d := d) hq4 (by omega)
                have hz : (a = 0 ∨ b = 0) → ma * mb = 0 := fun h => by rw [← hPb.2]; exact md_zero h
                refine J.run 28 K51_212 [(60, .bool (mode == 1)), (59, .int .i64 mode), (15, .bool false), (13, .int .u64 r), (12, .int .u64 q), (11, .int .u64 d), (10, .bool m)] w54 (by kernel_rfl) ?_
                refine J.head (.bool false) (congrArg Value.bool (beq_eq_false_iff_ne.2 fk1)) ?_
                refine J.run 6 K51_213 [(67, .bool (mode == 2)), (59, .int .i64 mode), (15, .bool false), (13, .int .u64 r), (12, .int .u64 q), (11, .int .u64 d), (10, .bool m)] w54 (by kernel_rfl) ?_
                refine J.head (.bool false) (congrArg Value.bool (beq_eq_false_iff_ne.2 fk22)) ?_
                refine J.run 6 K51_214 [(75, .bool (mode == 3)), (15, .bool false), (13, .int .u64 r), (12, .int .u64 q), (11, .int .u64 d), (10, .bool m)] w54 (by kernel_rfl) ?_
                refine J.head (.bool true) (congrArg Value.bool (beq_iff_eq.2 fk52)) ?_
                refine J.run 6 K51_215 [(80, .int .u64 (IntKind.wrap .u64 (d - r))), (77, .int .u64 r), (13, .int .u64 r), (12, .int .u64 q), (11, .int .u64 d), (10, .bool m)] w54 (by kernel_rfl) ?_
                refine J.head (.int .u64 (d - r)) (congrArg (Value.int .u64) (IntWalk.u64_in _ (by omega))) ?_
                refine J.run 2 K51_216 [(82, .bool (decide (r > (d - r)))), (13, .int .u64 r), (12, .int .u64 q), (11, .int .u64 d), (10, .bool m)] w54 (by kernel_rfl) ?_
                by_cases fk82 : r > (d - r)
                · skip
                  refine J.head (.bool true) (congrArg Value.bool (decide_eq_true fk82)) ?_
                  refine J.run 25 K51_217 [(95, .bool (q == 18446744073709551615)), (12, .int .u64 q), (10, .bool m)] w54 (by kernel_rfl) ?_
                  by_cases fk83 : q = 18446744073709551615
                  · skip
                    refine J.head (.bool true) (congrArg Value.bool (beq_iff_eq.2 fk83)) ?_
                    refine J.run 6 K51_218 [(9, .int .i64 9), (8, .int .i64 0)] w54 (by kernel_rfl) ?_
                    refine J.ret Tryd.f51 [.int .i64 0, .int .i64 9] Tryd.func51 ⟨by kernel_rfl, by kernel_rfl, trivial⟩ ?_
                    refine hR _ _ ?_
                    have hc0 : c ≠ 0 := by omega
                    subst hd
                    have e0 := md_core2 (a := a) (b := b) (c := c) (mode := mode) (q := q) (r := r) (m := m) hc0 (by omega) (by omega) (by omega) (by omega) (by omega) (.inl hm2)
                    have e3 : mulDivR a b c mode = if m then -(q + 1) else q + 1 := by rw [e0]; rcases Bool.eq_false_or_eq_true m with hmm | hmm <;> rw [hmm] <;> simp [rndB, tup_one, tup_two, tup_three, fk1, (beq_eq_false_iff_ne.2 fk1), (beq_eq_false_iff_ne.2 (Ne.symm fk1)), fk22, (beq_eq_false_iff_ne.2 fk22), (beq_eq_false_iff_ne.2 (Ne.symm fk22)), (beq_iff_eq.2 fk52), (beq_iff_eq.2 (Eq.symm fk52)), (Eq.symm fk52), fk53, (beq_eq_false_iff_ne.2 fk53), (beq_eq_false_iff_ne.2 (Ne.symm fk53)), fk54, (beq_eq_false_iff_ne.2 fk54), (beq_eq_false_iff_ne.2 (Ne.symm fk54)), fk66, (beq_eq_false_iff_ne.2 fk66), (beq_eq_false_iff_ne.2 (Ne.symm fk66)), fk78, (decide_eq_false fk78), fk82, (decide_eq_true fk82), (beq_iff_eq.2 fk83), (beq_iff_eq.2 (Eq.symm fk83)), (Eq.symm fk83)] <;> omega
                    have e1 := md_unfit (by omega) hc0 e3 (by split <;> omega)
                    exact ⟨by rw [tup_two, mdV, e1.1, e1.2], S54.nil⟩
                  · skip
                    refine J.head (.bool false) (congrArg Value.bool (beq_eq_false_iff_ne.2 fk83)) ?_
                    refine J.run 5 K51_219 [(97, .int .u64 (IntKind.wrap .u64 (q + 1))), (10, .bool m)] w54 (by kernel_rfl) ?_
                    refine J.head (.int .u64 (q + 1)) (congrArg (Value.int .u64) (IntWalk.u64_in _ (by omega))) ?_
                    refine J.run 7 K51_220 [(98, .bool m), (12, .int .u64 (q + 1))] w54 (by kernel_rfl) ?_
                    rcases Bool.eq_false_or_eq_true m with fk84 | fk84
                    · skip
                      refine J.head (.bool true) (congrArg Value.bool fk84) ?_
                      refine J.run 7 K51_221 [(100, .bool (decide ((q + 1) > 9223372036854775808))), (12, .int .u64 (q + 1))] w54 (by kernel_rfl) ?_
                      by_cases fk85 : (q + 1) > 9223372036854775808
                      · skip
                        refine J.head (.bool true) (congrArg Value.bool (decide_eq_true fk85)) ?_
                        refine J.run 6 K51_222 [(9, .int .i64 9), (8, .int .i64 0)] w54 (by kernel_rfl) ?_
                        refine J.ret Tryd.f51 [.int .i64 0, .int .i64 9] Tryd.func51 ⟨by kernel_rfl, by kernel_rfl, trivial⟩ ?_
                        refine hR _ _ ?_
                        have hc0 : c ≠ 0 := by omega
                        subst hd
                        have e0 := md_core2 (a := a) (b := b) (c := c) (mode := mode) (q := q) (r := r) (m := m) hc0 (by omega) (by omega) (by omega) (by omega) (by omega) (.inl hm2)
                        have e3 : mulDivR a b c mode = -(q + 1) := by rw [e0]; (try simp only [rndB, tup_one, tup_two, tup_three, fk1, (beq_eq_false_iff_ne.2 fk1), (beq_eq_false_iff_ne.2 (Ne.symm fk1)), fk22, (beq_eq_false_iff_ne.2 fk22), (beq_eq_false_iff_ne.2 (Ne.symm fk22)), (beq_iff_eq.2 fk52), (beq_iff_eq.2 (Eq.symm fk52)), (Eq.symm fk52), fk53, (beq_eq_false_iff_ne.2 fk53), (beq_eq_false_iff_ne.2 (Ne.symm fk53)), fk54, (beq_eq_false_iff_ne.2 fk54), (beq_eq_false_iff_ne.2 (Ne.symm fk54)), fk66, (beq_eq_false_iff_ne.2 fk66), (beq_eq_false_iff_ne.2 (Ne.symm fk66)), fk78, (decide_eq_false fk78), fk82, (decide_eq_true fk82), fk83, (beq_eq_false_iff_ne.2 fk83), (beq_eq_false_iff_ne.2 (Ne.symm fk83)), fk85, (decide_eq_true fk85)]) <;> simp [rndB, tup_one, tup_two, tup_three, fk1, (beq_eq_false_iff_ne.2 fk1), (beq_eq_false_iff_ne.2 (Ne.symm fk1)), fk22, (beq_eq_false_iff_ne.2 fk22), (beq_eq_false_iff_ne.2 (Ne.symm fk22)), (beq_iff_eq.2 fk52), (beq_iff_eq.2 (Eq.symm fk52)), (Eq.symm fk52), fk53, (beq_eq_false_iff_ne.2 fk53), (beq_eq_false_iff_ne.2 (Ne.symm fk53)), fk54, (beq_eq_false_iff_ne.2 fk54), (beq_eq_false_iff_ne.2 (Ne.symm fk54)), fk66, (beq_eq_false_iff_ne.2 fk66), (beq_eq_false_iff_ne.2 (Ne.symm fk66)), fk78, (decide_eq_false fk78), fk82, (decide_eq_true fk82), fk83, (beq_eq_false_iff_ne.2 fk83), (beq_eq_false_iff_ne.2 (Ne.symm fk83)), fk85, (decide_eq_true fk85), fk84] <;> omega
                        have e1 := md_unfit (by omega) hc0 e3 (by omega)
                        exact ⟨by rw [tup_two, mdV, e1.1, e1.2], S54.nil⟩
                      · skip
                        refine J.head (.bool false) (congrArg Value.bool (decide_eq_false fk85)) ?_
                        refine J.run 7 K51_223 [(103, .int .i64 (IntKind.wrap .i64 (IntKind.wrap .u64 (0 - (q + 1)))))] w54 (by kernel_rfl) ?_
                        refine J.head (.int .i64 (-(q + 1))) (congrArg (Value.int .i64) (neg_conv (by omega))) ?_
                        refine J.run 3 K51_224 [(9, .int .i64 0), (8, .int .i64 (-(q + 1)))] w54 (by kernel_rfl) ?_
                        refine J.ret Tryd.f51 [.int .i64 (-(q + 1)), .int .i64 0] Tryd.func51 ⟨by kernel_rfl, by kernel_rfl, trivial⟩ ?_
                        refine hR _ _ ?_
                        have hc0 : c ≠ 0 := by omega
                        subst hd
                        have e0 := md_core2 (a := a) (b := b) (c := c) (mode := mode) (q := q) (r := r) (m := m) hc0 (by omega) (by omega) (by omega) (by omega) (by omega) (.inl hm2)
                        have e3 : mulDivR a b c mode = -(q + 1) := by rw [e0]; (try simp only [rndB, tup_one, tup_two, tup_three, fk1, (beq_eq_false_iff_ne.2 fk1), (beq_eq_false_iff_ne.2 (Ne.symm fk1)), fk22, (beq_eq_false_iff_ne.2 fk22), (beq_eq_false_iff_ne.2 (Ne.symm fk22)), (beq_iff_eq.2 fk52), (beq_iff_eq.2 (Eq.symm fk52)), (Eq.symm fk52), fk53, (beq_eq_false_iff_ne.2 fk53), (beq_eq_false_iff_ne.2 (Ne.symm fk53)), fk54, (beq_eq_false_iff_ne.2 fk54), (beq_eq_false_iff_ne.2 (Ne.symm fk54)), fk66, (beq_eq_false_iff_ne.2 fk66), (beq_eq_false_iff_ne.2 (Ne.symm fk66)), fk78, (decide_eq_false fk78), fk82, (decide_eq_true fk82), fk83, (beq_eq_false_iff_ne.2 fk83), (beq_eq_false_iff_ne.2 (Ne.symm fk83)), fk85, (decide_eq_false fk85)]) <;> simp [rndB, tup_one, tup_two, tup_three, fk1, (beq_eq_false_iff_ne.2 fk1), (beq_eq_false_iff_ne.2 (Ne.symm fk1)), fk22, (beq_eq_false_iff_ne.2 fk22), (beq_eq_false_iff_ne.2 (Ne.symm fk22)), (beq_iff_eq.2 fk52), (beq_iff_eq.2 (Eq.symm fk52)), (Eq.symm fk52), fk53, (beq_eq_false_iff_ne.2 fk53), (beq_eq_false_iff_ne.2 (Ne.symm fk53)), fk54, (beq_eq_false_iff_ne.2 fk54), (beq_eq_false_iff_ne.2 (Ne.symm fk54)), fk66, (beq_eq_false_iff_ne.2 fk66), (beq_eq_false_iff_ne.2 (Ne.symm fk66)), fk78, (decide_eq_false fk78), fk82, (decide_eq_true fk82), fk83, (beq_eq_false_iff_ne.2 fk83), (beq_eq_false_iff_ne.2 (Ne.symm fk83)), fk85, (decide_eq_false fk85), fk84] <;> omega
                        have e1 := md_fit (by omega) hc0 e3 (by omega)
                        exact ⟨by rw [tup_two, mdV, e1.1, e1.2], S54.nil⟩
                    · skip
                      refine J.head (.bool false) (congrArg Value.bool fk84) ?_
                      refine J.run 8 K51_225 [(105, .bool (decide ((q + 1) ≥ 9223372036854775808))), (12, .int .u64 (q + 1))] w54 (by kernel_rfl) ?_
                      by_cases fk86 : (q + 1) ≥ 9223372036854775808
                      · skip
                        refine J.head (.bool true) (congrArg Value.bool (decide_eq_true fk86)) ?_
                        refine J.run 6 K51_226 [(9, .int .i64 9), (8, .int .i64 0)] w54 (by kernel_rfl) ?_
                        refine J.ret Tryd.f51 [.int .i64 0, .int .i64 9] Tryd.func51 ⟨by kernel_rfl, by kernel_rfl, trivial⟩ ?_
                        refine hR _ _ ?_
                        have hc0 : c ≠ 0 := by omega
                        subst hd
                        have e0 := md_core2 (a := a) (b := b) (c := c) (mode := mode) (q := q) (r := r) (m := m) hc0 (by omega) (by omega) (by omega) (by omega) (by omega) (.inl hm2)
                        have e3 : mulDivR a b c mode = q + 1 := by rw [e0]; (try simp only [rndB, tup_one, tup_two, tup_three, fk1, (beq_eq_false_iff_ne.2 fk1), (beq_eq_false_iff_ne.2 (Ne.symm fk1)), fk22, (beq_eq_false_iff_ne.2 fk22), (beq_eq_false_iff_ne.2 (Ne.symm fk22)), (beq_iff_eq.2 fk52), (beq_iff_eq.2 (Eq.symm fk52)), (Eq.symm fk52), fk53, (beq_eq_false_iff_ne.2 fk53), (beq_eq_false_iff_ne.2 (Ne.symm fk53)), fk54, (beq_eq_false_iff_ne.2 fk54), (beq_eq_false_iff_ne.2 (Ne.symm fk54)), fk66, (beq_eq_false_iff_ne.2 fk66), (beq_eq_false_iff_ne.2 (Ne.symm fk66)), fk78, (decide_eq_false fk78), fk82, (decide_eq_true fk82), fk83, (beq_eq_false_iff_ne.2 fk83), (beq_eq_false_iff_ne.2 (Ne.symm fk83)), fk86, (decide_eq_true fk86)]) <;> simp [rndB, tup_one, tup_two, tup_three, fk1, (beq_eq_false_iff_ne.2 fk1), (beq_eq_false_iff_ne.2 (Ne.symm fk1)), fk22, (beq_eq_false_iff_ne.2 fk22), (beq_eq_false_iff_ne.2 (Ne.symm fk22)), (beq_iff_eq.2 fk52), (beq_iff_eq.2 (Eq.symm fk52)), (Eq.symm fk52), fk53, (beq_eq_false_iff_ne.2 fk53), (beq_eq_false_iff_ne.2 (Ne.symm fk53)), fk54, (beq_eq_false_iff_ne.2 fk54), (beq_eq_false_iff_ne.2 (Ne.symm fk54)), fk66, (beq_eq_false_iff_ne.2 fk66), (beq_eq_false_iff_ne.2 (Ne.symm fk66)), fk78, (decide_eq_false fk78), fk82, (decide_eq_true fk82), fk83, (beq_eq_false_iff_ne.2 fk83), (beq_eq_false_iff_ne.2 (Ne.symm fk83)), fk86, (decide_eq_true fk86), fk84] <;> omega
                        have e1 := md_unfit (by omega) hc0 e3 (by omega)
                        exact ⟨by rw [tup_two, mdV, e1.1, e1.2], S54.nil⟩
                      · skip
                        refine J.head (.bool false) (congrArg Value.bool (decide_eq_false fk86)) ?_
                        refine J.run 6 K51_227 [(107, .int .i64 (IntKind.wrap .i64 (q + 1)))] w54 (by kernel_rfl) ?_
                        refine J.head (.int .i64 (q + 1)) (congrArg (Value.int .i64) (IntWalk.i64_in _ (by omega))) ?_
                        refine J.run 3 K51_228 [(9, .int .i64 0), (8, .int .i64 (q + 1))] w54 (by kernel_rfl) ?_
                        refine J.ret Tryd.f51 [.int .i64 (q + 1), .int .i64 0] Tryd.func51 ⟨by kernel_rfl, by kernel_rfl, trivial⟩ ?_
                        refine hR _ _ ?_
                        have hc0 : c ≠ 0 := by omega
                        subst hd
                        have e0 := md_core2 (a := a) (b := b) (c := c) (mode := mode) (q := q) (r := r) (m := m) hc0 (by omega) (by omega) (by omega) (by omega) (by omega) (.inl hm2)
                        have e3 : mulDivR a b c mode = q + 1 := by rw [e0]; (try simp only [rndB, tup_one, tup_two, tup_three, fk1, (beq_eq_false_iff_ne.2 fk1), (beq_eq_false_iff_ne.2 (Ne.symm fk1)), fk22, (beq_eq_false_iff_ne.2 fk22), (beq_eq_false_iff_ne.2 (Ne.symm fk22)), (beq_iff_eq.2 fk52), (beq_iff_eq.2 (Eq.symm fk52)), (Eq.symm fk52), fk53, (beq_eq_false_iff_ne.2 fk53), (beq_eq_false_iff_ne.2 (Ne.symm fk53)), fk54, (beq_eq_false_iff_ne.2 fk54), (beq_eq_false_iff_ne.2 (Ne.symm fk54)), fk66, (beq_eq_false_iff_ne.2 fk66), (beq_eq_false_iff_ne.2 (Ne.symm fk66)), fk78, (decide_eq_false fk78), fk82, (decide_eq_true fk82), fk83, (beq_eq_false_iff_ne.2 fk83), (beq_eq_false_iff_ne.2 (Ne.symm fk83)), fk86, (decide_eq_false fk86)]) <;> simp [rndB, tup_one, tup_two, tup_three, fk1, (beq_eq_false_iff_ne.2 fk1), (beq_eq_false_iff_ne.2 (Ne.symm fk1)), fk22, (beq_eq_false_iff_ne.2 fk22), (beq_eq_false_iff_ne.2 (Ne.symm fk22)), (beq_iff_eq.2 fk52), (beq_iff_eq.2 (Eq.symm fk52)), (Eq.symm fk52), fk53, (beq_eq_false_iff_ne.2 fk53), (beq_eq_false_iff_ne.2 (Ne.symm fk53)), fk54, (beq_eq_false_iff_ne.2 fk54), (beq_eq_false_iff_ne.2 (Ne.symm fk54)), fk66, (beq_eq_false_iff_ne.2 fk66), (beq_eq_false_iff_ne.2 (Ne.symm fk66)), fk78, (decide_eq_false fk78), fk82, (decide_eq_true fk82), fk83, (beq_eq_false_iff_ne.2 fk83), (beq_eq_false_iff_ne.2 (Ne.symm fk83)), fk86, (decide_eq_false fk86), fk84] <;> omega
                        have e1 := md_fit (by omega) hc0 e3 (by omega)
                        exact ⟨by rw [tup_two, mdV, e1.1, e1.2], S54.nil⟩
                · skip
                  refine J.head (.bool false) (congrArg Value.bool (decide_eq_false fk82)) ?_
                  refine J.run 4 K51_229 [(86, .int .u64 (IntKind.wrap .u64 (d - r))), (83, .int .u64 r), (82, .bool false), (12, .int .u64 q), (10, .bool m)] w54 (by kernel_rfl) ?_
                  refine J.head (.int .u64 (d - r)) (congrArg (Value.int .u64) (IntWalk.u64_in _ (by omega))) ?_
                  refine J.run 2 K51_230 [(88, .bool (r == (d - r))), (82, .bool false), (12, .int .u64 q), (10, .bool m)] w54 (by kernel_rfl) ?_
                  by_cases fk87 : r = (d - r)
                  · skip
                    refine J.head (.bool true) (congrArg Value.bool (beq_iff_eq.2 fk87)) ?_
                    refine J.run 12 K51_231 [(93, .bool (!m)), (12, .int .u64 q), (10, .bool m)] w54 (by kernel_rfl) ?_
                    rcases Bool.eq_false_or_eq_true m with fk88 | fk88
                    · skip
                      refine J.head (.bool false) (congrArg Value.bool (by rw [fk88]; rfl)) ?_
                      refine J.run 7 K51_232 [(98, .bool m), (12, .int .u64 q)] w54 (by kernel_rfl) ?_
                      refine J.head (.bool true) (congrArg Value.bool fk88) ?_
                      refine J.run 7 K51_233 [(100, .bool (decide (q > 9223372036854775808))), (12, .int .u64 q)] w54 (by kernel_rfl) ?_
                      by_cases fk90 : q > 9223372036854775808
                      · skip
                        refine J.head (.bool true) (congrArg Value.bool (decide_eq_true fk90)) ?_
                        refine J.run 6 K51_234 [(9, .int .i64 9), (8, .int .i64 0)] w54 (by kernel_rfl) ?_
                        refine J.ret Tryd.f51 [.int .i64 0, .int .i64 9] Tryd.func51 ⟨by kernel_rfl, by kernel_rfl, trivial⟩ ?_
                        refine hR _ _ ?_
                        have hc0 : c ≠ 0 := by omega
                        subst hd
                        have e0 := md_core2 (a := a) (b := b) (c := c) (mode := mode) (q := q) (r := r) (m := m) hc0 (by omega) (by omega) (by omega) (by omega) (by omega) (.inl hm2)
                        have e3 : mulDivR a b c mode = -(q) := by rw [e0]; (try simp only [rndB, tup_one, tup_two, tup_three, fk1, (beq_eq_false_iff_ne.2 fk1), (beq_eq_false_iff_ne.2 (Ne.symm fk1)), fk22, (beq_eq_false_iff_ne.2 fk22), (beq_eq_false_iff_ne.2 (Ne.symm fk22)), (beq_iff_eq.2 fk52), (beq_iff_eq.2 (Eq.symm fk52)), (Eq.symm fk52), fk53, (beq_eq_false_iff_ne.2 fk53), (beq_eq_false_iff_ne.2 (Ne.symm fk53)), fk54, (beq_eq_false_iff_ne.2 fk54), (beq_eq_false_iff_ne.2 (Ne.symm fk54)), fk66, (beq_eq_false_iff_ne.2 fk66), (beq_eq_false_iff_ne.2 (Ne.symm fk66)), fk78, (decide_eq_false fk78), fk82, (decide_eq_false fk82), (beq_iff_eq.2 fk87), (beq_iff_eq.2 (Eq.symm fk87)), (Eq.symm fk87), fk90, (decide_eq_true fk90)]) <;> simp [rndB, tup_one, tup_two, tup_three, fk1, (beq_eq_false_iff_ne.2 fk1), (beq_eq_false_iff_ne.2 (Ne.symm fk1)), fk22, (beq_eq_false_iff_ne.2 fk22), (beq_eq_false_iff_ne.2 (Ne.symm fk22)), (beq_iff_eq.2 fk52), (beq_iff_eq.2 (Eq.symm fk52)), (Eq.symm fk52), fk53, (beq_eq_false_iff_ne.2 fk53), (beq_eq_false_iff_ne.2 (Ne.symm fk53)), fk54, (beq_eq_false_iff_ne.2 fk54), (beq_eq_false_iff_ne.2 (Ne.symm fk54)), fk66, (beq_eq_false_iff_ne.2 fk66), (beq_eq_false_iff_ne.2 (Ne.symm fk66)), fk78, (decide_eq_false fk78), fk82, (decide_eq_false fk82), (beq_iff_eq.2 fk87), (beq_iff_eq.2 (Eq.symm fk87)), (Eq.symm fk87), fk90, (decide_eq_true fk90), fk88] <;> omega
                        have e1 := md_unfit (by omega) hc0 e3 (by omega)
                        exact ⟨by rw [tup_two, mdV, e1.1, e1.2], S54.nil⟩
                      · skip
                        refine J.head (.bool false) (congrArg Value.bool (decide_eq_false fk90)) ?_
                        refine J.run 7 K51_235 [(103, .int .i64 (IntKind.wrap .i64 (IntKind.wrap .u64 (0 - q))))] w54 (by kernel_rfl) ?_
                        refine J.head (.int .i64 (-q)) (congrArg (Value.int .i64) (neg_conv (by omega))) ?_
                        refine J.run 3 K51_236 [(9, .int .i64 0), (8, .int .i64 (-q))] w54 (by kernel_rfl) ?_
                        refine J.ret Tryd.f51 [.int .i64 (-q), .int .i64 0] Tryd.func51 ⟨by kernel_rfl, by kernel_rfl, trivial⟩ ?_
                        refine hR _ _ ?_
                        have hc0 : c ≠ 0 := by omega
                        subst hd
                        have e0 := md_core2 (a := a) (b := b) (c := c) (mode := mode) (q := q) (r := r) (m := m) hc0 (by omega) (by omega) (by omega) (by omega) (by omega) (.inl hm2)
                        have e3 : mulDivR a b c mode = -q := by rw [e0]; (try simp only [rndB, tup_one, tup_two, tup_three, fk1, (beq_eq_false_iff_ne.2 fk1), (beq_eq_false_iff_ne.2 (Ne.symm fk1)), fk22, (beq_eq_false_iff_ne.2 fk22), (beq_eq_false_iff_ne.2 (Ne.symm fk22)), (beq_iff_eq.2 fk52), (beq_iff_eq.2 (Eq.symm fk52)), (Eq.symm fk52), fk53, (beq_eq_false_iff_ne.2 fk53), (beq_eq_false_iff_ne.2 (Ne.symm fk53)), fk54, (beq_eq_false_iff_ne.2 fk54), (beq_eq_false_iff_ne.2 (Ne.symm fk54)), fk66, (beq_eq_false_iff_ne.2 fk66), (beq_eq_false_iff_ne.2 (Ne.symm fk66)), fk78, (decide_eq_false fk78), fk82, (decide_eq_false fk82), (beq_iff_eq.2 fk87), (beq_iff_eq.2 (Eq.symm fk87)), (Eq.symm fk87), fk90, (decide_eq_false fk90)]) <;> simp [rndB, tup_one, tup_two, tup_three, fk1, (beq_eq_false_iff_ne.2 fk1), (beq_eq_false_iff_ne.2 (Ne.symm fk1)), fk22, (beq_eq_false_iff_ne.2 fk22), (beq_eq_false_iff_ne.2 (Ne.symm fk22)), (beq_iff_eq.2 fk52), (beq_iff_eq.2 (Eq.symm fk52)), (Eq.symm fk52), fk53, (beq_eq_false_iff_ne.2 fk53), (beq_eq_false_iff_ne.2 (Ne.symm fk53)), fk54, (beq_eq_false_iff_ne.2 fk54), (beq_eq_false_iff_ne.2 (Ne.symm fk54)), fk66, (beq_eq_false_iff_ne.2 fk66), (beq_eq_false_iff_ne.2 (Ne.symm fk66)), fk78, (decide_eq_false fk78), fk82, (decide_eq_false fk82), (beq_iff_eq.2 fk87), (beq_iff_eq.2 (Eq.symm fk87)), (Eq.symm fk87), fk90, (decide_eq_false fk90), fk88] <;> omega
                        have e1 := md_fit (by omega) hc0 e3 (by omega)
                        exact ⟨by rw [tup_two, mdV, e1.1, e1.2], S54.nil⟩
                    · skip
                      refine J.head (.bool true) (congrArg Value.bool (by rw [fk88]; rfl)) ?_
                      refine J.run 7 K51_237 [(95, .bool (q == 18446744073709551615)), (12, .int .u64 q), (10, .bool m)] w54 (by kernel_rfl) ?_
                      by_cases fk91 : q = 18446744073709551615
                      · skip
                        refine J.head (.bool true) (congrArg Value.bool (beq_iff_eq.2 fk91)) ?_
                        refine J.run 6 K51_238 [(9, .int .i64 9), (8, .int .i64 0)] w54 (by kernel_rfl) ?_
                        refine J.ret Tryd.f51 [.int .i64 0, .int .i64 9] Tryd.func51 ⟨by kernel_rfl, by kernel_rfl, trivial⟩ ?_
                        refine hR _ _ ?_
                        have hc0 : c ≠ 0 := by omega
                        subst hd
                        have e0 := md_core2 (a := a) (b := b) (c := c) (mode := mode) (q := q) (r := r) (m := m) hc0 (by omega) (by omega) (by omega) (by omega) (by omega) (.inl hm2)
                        have e3 : mulDivR a b c mode = q + 1 := by rw [e0]; (try simp only [rndB, tup_one, tup_two, tup_three, fk1, (beq_eq_false_iff_ne.2 fk1), (beq_eq_false_iff_ne.2 (Ne.symm fk1)), fk22, (beq_eq_false_iff_ne.2 fk22), (beq_eq_false_iff_ne.2 (Ne.symm fk22)), (beq_iff_eq.2 fk52), (beq_iff_eq.2 (Eq.symm fk52)), (Eq.symm fk52), fk53, (beq_eq_false_iff_ne.2 fk53), (beq_eq_false_iff_ne.2 (Ne.symm fk53)), fk54, (beq_eq_false_iff_ne.2 fk54), (beq_eq_false_iff_ne.2 (Ne.symm fk54)), fk66, (beq_eq_false_iff_ne.2 fk66), (beq_eq_false_iff_ne.2 (Ne.symm fk66)), fk78, (decide_eq_false fk78), fk82, (decide_eq_false fk82), (beq_iff_eq.2 fk87), (beq_iff_eq.2 (Eq.symm fk87)), (Eq.symm fk87), (beq_iff_eq.2 fk91), (beq_iff_eq.2 (Eq.symm fk91)), (Eq.symm fk91)]) <;> simp [rndB, tup_one, tup_two, tup_three, fk1, (beq_eq_false_iff_ne.2 fk1), (beq_eq_false_iff_ne.2 (Ne.symm fk1)), fk22, (beq_eq_false_iff_ne.2 fk22), (beq_eq_false_iff_ne.2 (Ne.symm fk22)), (beq_iff_eq.2 fk52), (beq_iff_eq.2 (Eq.symm fk52)), (Eq.symm fk52), fk53, (beq_eq_false_iff_ne.2 fk53), (beq_eq_false_iff_ne.2 (Ne.symm fk53)), fk54, (beq_eq_false_iff_ne.2 fk54), (beq_eq_false_iff_ne.2 (Ne.symm fk54)), fk66, (beq_eq_false_iff_ne.2 fk66), (beq_eq_false_iff_ne.2 (Ne.symm fk66)), fk78, (decide_eq_false fk78), fk82, (decide_eq_false fk82), (beq_iff_eq.2 fk87), (beq_iff_eq.2 (Eq.symm fk87)), (Eq.symm fk87), (beq_iff_eq.2 fk91), (beq_iff_eq.2 (Eq.symm fk91)), (Eq.symm fk91), fk88] <;> omega
                        have e1 := md_unfit (by omega) hc0 e3 (by omega)
                        exact ⟨by rw [tup_two, mdV, e1.1, e1.2], S54.nil⟩
                      · skip
                        refine J.head (.bool false) (congrArg Value.bool (beq_eq_false_iff_ne.2 fk91)) ?_
                        refine J.run 5 K51_239 [(97, .int .u64 (IntKind.wrap .u64 (q + 1))), (10, .bool m)] w54 (by kernel_rfl) ?_
                        refine J.head (.int .u64 (q + 1)) (congrArg (Value.int .u64) (IntWalk.u64_in _ (by omega))) ?_
                        refine J.run 7 K51_240 [(98, .bool m), (12, .int .u64 (q + 1))] w54 (by kernel_rfl) ?_
                        refine J.head (.bool false) (congrArg Value.bool fk88) ?_
                        refine J.run 8 K51_241 [(105, .bool (decide ((q + 1) ≥ 9223372036854775808))), (12, .int .u64 (q + 1))] w54 (by kernel_rfl) ?_
                        by_cases fk93 : (q + 1) ≥ 9223372036854775808
                        · skip
                          refine J.head (.bool true) (congrArg Value.bool (decide_eq_true fk93)) ?_
                          refine J.run 6 K51_242 [(9, .int .i64 9), (8, .int .i64 0)] w54 (by kernel_rfl) ?_
                          refine J.ret Tryd.f51 [.int .i64 0, .int .i64 9] Tryd.func51 ⟨by kernel_rfl, by kernel_rfl, trivial⟩ ?_
                          refine hR _ _ ?_
                          have hc0 : c ≠ 0 := by omega
                          subst hd
                          have e0 := md_core2 (a := a) (b := b) (c := c) (mode := mode) (q := q) (r := r) (m := m) hc0 (by omega) (by omega) (by omega) (by omega) (by omega) (.inl hm2)
                          have e3 : mulDivR a b c mode = q + 1 := by rw [e0]; (try simp only [rndB, tup_one, tup_two, tup_three, fk1, (beq_eq_false_iff_ne.2 fk1), (beq_eq_false_iff_ne.2 (Ne.symm fk1)), fk22, (beq_eq_false_iff_ne.2 fk22), (beq_eq_false_iff_ne.2 (Ne.symm fk22)), (beq_iff_eq.2 fk52), (beq_iff_eq.2 (Eq.symm fk52)), (Eq.symm fk52), fk53, (beq_eq_false_iff_ne.2 fk53), (beq_eq_false_iff_ne.2 (Ne.symm fk53)), fk54, (beq_eq_false_iff_ne.2 fk54), (beq_eq_false_iff_ne.2 (Ne.symm fk54)), fk66, (beq_eq_false_iff_ne.2 fk66), (beq_eq_false_iff_ne.2 (Ne.symm fk66)), fk78, (decide_eq_false fk78), fk82, (decide_eq_false fk82), (beq_iff_eq.2 fk87), (beq_iff_eq.2 (Eq.symm fk87)), (Eq.symm fk87), fk91, (beq_eq_false_iff_ne.2 fk91), (beq_eq_false_iff_ne.2 (Ne.symm fk91)), fk93, (decide_eq_true fk93)]) <;> simp [rndB, tup_one, tup_two, tup_three, fk1, (beq_eq_false_iff_ne.2 fk1), (beq_eq_false_iff_ne.2 (Ne.symm fk1)), fk22, (beq_eq_false_iff_ne.2 fk22), (beq_eq_false_iff_ne.2 (Ne.symm fk22)), (beq_iff_eq.2 fk52), (beq_iff_eq.2 (Eq.symm fk52)), (Eq.symm fk52), fk53, (beq_eq_false_iff_ne.2 fk53), (beq_eq_false_iff_ne.2 (Ne.symm fk53)), fk54, (beq_eq_false_iff_ne.2 fk54), (beq_eq_false_iff_ne.2 (Ne.symm fk54)), fk66, (beq_eq_false_iff_ne.2 fk66), (beq_eq_false_iff_ne.2 (Ne.symm fk66)), fk78, (decide_eq_false fk78), fk82, (decide_eq_false fk82), (beq_iff_eq.2 fk87), (beq_iff_eq.2 (Eq.symm fk87)), (Eq.symm fk87), fk91, (beq_eq_false_iff_ne.2 fk91), (beq_eq_false_iff_ne.2 (Ne.symm fk91)), fk93, (decide_eq_true fk93), fk88] <;> omega
                          have e1 := md_unfit (by omega) hc0 e3 (by omega)
                          exact ⟨by rw [tup_two, mdV, e1.1, e1.2], S54.nil⟩
                        · skip
                          refine J.head (.bool false) (congrArg Value.bool (decide_eq_false fk93)) ?_
                          refine J.run 6 K51_243 [(107, .int .i64 (IntKind.wrap .i64 (q + 1)))] w54 (by kernel_rfl) ?_
                          refine J.head (.int .i64 (q + 1)) (congrArg (Value.int .i64) (IntWalk.i64_in _ (by omega))) ?_
                          refine J.run 3 K51_244 [(9, .int .i64 0), (8, .int .i64 (q + 1))] w54 (by kernel_rfl) ?_
                          refine J.ret Tryd.f51 [.int .i64 (q + 1), .int .i64 0] Tryd.func51 ⟨by kernel_rfl, by kernel_rfl, trivial⟩ ?_
                          refine hR _ _ ?_
                          have hc0 : c ≠ 0 := by omega
                          subst hd
                          have e0 := md_core2 (a := a) (b := b) (c := c) (mode := mode) (q := q) (r := r) (m := m) hc0 (by omega) (by omega) (by omega) (by omega) (by omega) (.inl hm2)
                          have e3 : mulDivR a b c mode = q + 1 := by rw [e0]; (try simp only [rndB, tup_one, tup_two, tup_three, fk1, (beq_eq_false_iff_ne.2 fk1), (beq_eq_false_iff_ne.2 (Ne.symm fk1)), fk22, (beq_eq_false_iff_ne.2 fk22), (beq_eq_false_iff_ne.2 (Ne.symm fk22)), (beq_iff_eq.2 fk52), (beq_iff_eq.2 (Eq.symm fk52)), (Eq.symm fk52), fk53, (beq_eq_false_iff_ne.2 fk53), (beq_eq_false_iff_ne.2 (Ne.symm fk53)), fk54, (beq_eq_false_iff_ne.2 fk54), (beq_eq_false_iff_ne.2 (Ne.symm fk54)), fk66, (beq_eq_false_iff_ne.2 fk66), (beq_eq_false_iff_ne.2 (Ne.symm fk66)), fk78, (decide_eq_false fk78), fk82, (decide_eq_false fk82), (beq_iff_eq.2 fk87), (beq_iff_eq.2 (Eq.symm fk87)), (Eq.symm fk87), fk91, (beq_eq_false_iff_ne.2 fk91), (beq_eq_false_iff_ne.2 (Ne.symm fk91)), fk93, (decide_eq_false fk93)]) <;> simp [rndB, tup_one, tup_two, tup_three, fk1, (beq_eq_false_iff_ne.2 fk1), (beq_eq_false_iff_ne.2 (Ne.symm fk1)), fk22, (beq_eq_false_iff_ne.2 fk22), (beq_eq_false_iff_ne.2 (Ne.symm fk22)), (beq_iff_eq.2 fk52), (beq_iff_eq.2 (Eq.symm fk52)), (Eq.symm fk52), fk53, (beq_eq_false_iff_ne.2 fk53), (beq_eq_false_iff_ne.2 (Ne.symm fk53)), fk54, (beq_eq_false_iff_ne.2 fk54), (beq_eq_false_iff_ne.2 (Ne.symm fk54)), fk66, (beq_eq_false_iff_ne.2 fk66), (beq_eq_false_iff_ne.2 (Ne.symm fk66)), fk78, (decide_eq_false fk78), fk82, (decide_eq_false fk82), (beq_iff_eq.2 fk87), (beq_iff_eq.2 (Eq.symm fk87)), (Eq.symm fk87), fk91, (beq_eq_false_iff_ne.2 fk91), (beq_eq_false_iff_ne.2 (Ne.symm fk91)), fk93, (decide_eq_false fk93), fk88] <;> omega
                          have e1 := md_fit (by omega) hc0 e3 (by omega)
                          exact ⟨by rw [tup_two, mdV, e1.1, e1.2], S54.nil⟩
                  · skip
                    refine J.head (.bool false) (congrArg Value.bool (beq_eq_false_iff_ne.2 fk87)) ?_
                    refine J.run 19 K51_245 [(98, .bool m), (12, .int .u64 q)] w54 (by kernel_rfl) ?_
                    rcases Bool.eq_false_or_eq_true m with fk94 | fk94
                    · skip
                      refine J.head (.bool true) (congrArg Value.bool fk94) ?_
                      refine J.run 7 K51_246 [(100, .bool (decide (q > 9223372036854775808))), (12, .int .u64 q)] w54 (by kernel_rfl) ?_
                      by_cases fk95 : q > 9223372036854775808
                      · skip
                        refine J.head (.bool true) (congrArg Value.bool (decide_eq_true fk95)) ?_
                        refine J.run 6 K51_247 [(9, .int .i64 9), (8, .int .i64 0)] w54 (by kernel_rfl) ?_
                        refine J.ret Tryd.f51 [.int .i64 0, .int .i64 9] Tryd.func51 ⟨by kernel_rfl, by kernel_rfl, trivial⟩ ?_
                        refine hR _ _ ?_
                        have hc0 : c ≠ 0 := by omega
                        subst hd
                        have e0 := md_core2 (a := a) (b := b) (c := c) (mode := mode) (q := q) (r := r) (m := m) hc0 (by omega) (by omega) (by omega) (by omega) (by omega) (.inl hm2)
                        have e3 : mulDivR a b c mode = -(q) := by rw [e0]; (try simp only [rndB, tup_one, tup_two, tup_three, fk1, (beq_eq_false_iff_ne.2 fk1), (beq_eq_false_iff_ne.2 (Ne.symm fk1)), fk22, (beq_eq_false_iff_ne.2 fk22), (beq_eq_false_iff_ne.2 (Ne.symm fk22)), (beq_iff_eq.2 fk52), (beq_iff_eq.2 (Eq.symm fk52)), (Eq.symm fk52), fk53, (beq_eq_false_iff_ne.2 fk53), (beq_eq_false_iff_ne.2 (Ne.symm fk53)), fk54, (beq_eq_false_iff_ne.2 fk54), (beq_eq_false_iff_ne.2 (Ne.symm fk54)), fk66, (beq_eq_false_iff_ne.2 fk66), (beq_eq_false_iff_ne.2 (Ne.symm fk66)), fk78, (decide_eq_false fk78), fk82, (decide_eq_false fk82), fk87, (beq_eq_false_iff_ne.2 fk87), (beq_eq_false_iff_ne.2 (Ne.symm fk87)), fk95, (decide_eq_true fk95)]) <;> simp [rndB, tup_one, tup_two, tup_three, fk1, (beq_eq_false_iff_ne.2 fk1), (beq_eq_false_iff_ne.2 (Ne.symm fk1)), fk22, (beq_eq_false_iff_ne.2 fk22), (beq_eq_false_iff_ne.2 (Ne.symm fk22)), (beq_iff_eq.2 fk52), (beq_iff_eq.2 (Eq.symm fk52)), (Eq.symm fk52), fk53, (beq_eq_false_iff_ne.2 fk53), (beq_eq_false_iff_ne.2 (Ne.symm fk53)), fk54, (beq_eq_false_iff_ne.2 fk54), (beq_eq_false_iff_ne.2 (Ne.symm fk54)), fk66, (beq_eq_false_iff_ne.2 fk66), (beq_eq_false_iff_ne.2 (Ne.symm fk66)), fk78, (decide_eq_false fk78), fk82, (decide_eq_false fk82), fk87, (beq_eq_false_iff_ne.2 fk87), (beq_eq_false_iff_ne.2 (Ne.symm fk87)), fk95, (decide_eq_true fk95), fk94] <;> omega
                        have e1 := md_unfit (by omega) hc0 e3 (by omega)
                        exact ⟨by rw [tup_two, mdV, e1.1, e1.2], S54.nil⟩
                      · skip
                        refine J.head (.bool false) (congrArg Value.bool (decide_eq_false fk95)) ?_
                        refine J.run 7 K51_248 [(103, .int .i64 (IntKind.wrap .i64 (IntKind.wrap .u64 (0 - q))))] w54 (by kernel_rfl) ?_
                        refine J.head (.int .i64 (-q)) (congrArg (Value.int .i64) (neg_conv (by omega))) ?_
                        refine J.run 3 K51_249 [(9, .int .i64 0), (8, .int .i64 (-q))] w54 (by kernel_rfl) ?_
                        refine J.ret Tryd.f51 [.int .i64 (-q), .int .i64 0] Tryd.func51 ⟨by kernel_rfl, by kernel_rfl, trivial⟩ ?_
                        refine hR _ _ ?_
                        have hc0 : c ≠ 0 := by omega
                        subst hd
                        have e0 := md_core2 (a := a) (b := b) (c := c) (mode := mode) (q := q) (r := r) (m := m) hc0 (by omega) (by omega) (by omega) (by omega) (by omega) (.inl hm2)
                        have e3 : mulDivR a b c mode = -q := by rw [e0]; (try simp only [rndB, tup_one, tup_two, tup_three, fk1, (beq_eq_false_iff_ne.2 fk1), (beq_eq_false_iff_ne.2 (Ne.symm fk1)), fk22, (beq_eq_false_iff_ne.2 fk22), (beq_eq_false_iff_ne.2 (Ne.symm fk22)), (beq_iff_eq.2 fk52), (beq_iff_eq.2 (Eq.symm fk52)), (Eq.symm fk52), fk53, (beq_eq_false_iff_ne.2 fk53), (beq_eq_false_iff_ne.2 (Ne.symm fk53)), fk54, (beq_eq_false_iff_ne.2 fk54), (beq_eq_false_iff_ne.2 (Ne.symm fk54)), fk66, (beq_eq_false_iff_ne.2 fk66), (beq_eq_false_iff_ne.2 (Ne.symm fk66)), fk78, (decide_eq_false fk78), fk82, (decide_eq_false fk82), fk87, (beq_eq_false_iff_ne.2 fk87), (beq_eq_false_iff_ne.2 (Ne.symm fk87)), fk95, (decide_eq_false fk95)]) <;> simp [rndB, tup_one, tup_two, tup_three, fk1, (beq_eq_false_iff_ne.2 fk1), (beq_eq_false_iff_ne.2 (Ne.symm fk1)), fk22, (beq_eq_false_iff_ne.2 fk22), (beq_eq_false_iff_ne.2 (Ne.symm fk22)), (beq_iff_eq.2 fk52), (beq_iff_eq.2 (Eq.symm fk52)), (Eq.symm fk52), fk53, (beq_eq_false_iff_ne.2 fk53), (beq_eq_false_iff_ne.2 (Ne.symm fk53)), fk54, (beq_eq_false_iff_ne.2 fk54), (beq_eq_false_iff_ne.2 (Ne.symm fk54)), fk66, (beq_eq_false_iff_ne.2 fk66), (beq_eq_false_iff_ne.2 (Ne.symm fk66)), fk78, (decide_eq_false fk78), fk82, (decide_eq_false fk82), fk87, (beq_eq_false_iff_ne.2 fk87), (beq_eq_false_iff_ne.2 (Ne.symm fk87)), fk95, (decide_eq_false fk95), fk94] <;> omega
                        have e1 := md_fit (by omega) hc0 e3 (by omega)
                        exact ⟨by rw [tup_two, mdV, e1.1, e1.2], S54.nil⟩
                    · skip
                      refine J.head (.bool false) (congrArg Value.bool fk94) ?_
                      refine J.run 8 K51_250 [(105, .bool (decide (q ≥ 9223372036854775808))), (12, .int .u64 q)] w54 (by kernel_rfl) ?_
                      by_cases fk96 : q ≥ 9223372036854775808
                      · skip
                        refine J.head (.bool true) (congrArg Value.bool (decide_eq_true fk96)) ?_
                        refine J.run 6 K51_251 [(9, .int .i64 9), (8, .int .i64 0)] w54 (by kernel_rfl) ?_
                        refine J.ret Tryd.f51 [.int .i64 0, .int .i64 9] Tryd.func51 ⟨by kernel_rfl, by kernel_rfl, trivial⟩ ?_
                        refine hR _ _ ?_
                        have hc0 : c ≠ 0 := by omega
                        subst hd
                        have e0 := md_core2 (a := a) (b := b) (c := c) (mode := mode) (q := q) (r := r) (m := m) hc0 (by omega) (by omega) (by omega) (by omega) (by omega) (.inl hm2)
                        have e3 : mulDivR a b c mode = q := by rw [e0]; (try simp only [rndB, tup_one, tup_two, tup_three, fk1, (beq_eq_false_iff_ne.2 fk1), (beq_eq_false_iff_ne.2 (Ne.symm fk1)), fk22, (beq_eq_false_iff_ne.2 fk22), (beq_eq_false_iff_ne.2 (Ne.symm fk22)), (beq_iff_eq.2 fk52), (beq_iff_eq.2 (Eq.symm fk52)), (Eq.symm fk52), fk53, (beq_eq_false_iff_ne.2 fk53), (beq_eq_false_iff_ne.2 (Ne.symm fk53)), fk54, (beq_eq_false_iff_ne.2 fk54), (beq_eq_false_iff_ne.2 (Ne.symm fk54)), fk66, (beq_eq_false_iff_ne.2 fk66), (beq_eq_false_iff_ne.2 (Ne.symm fk66)), fk78, (decide_eq_false fk78), fk82, (decide_eq_false fk82), fk87, (beq_eq_false_iff_ne.2 fk87), (beq_eq_false_iff_ne.2 (Ne.symm fk87)), fk96, (decide_eq_true fk96)]) <;> simp [rndB, tup_one, tup_two, tup_three, fk1, (beq_eq_false_iff_ne.2 fk1), (beq_eq_false_iff_ne.2 (Ne.symm fk1)), fk22, (beq_eq_false_iff_ne.2 fk22), (beq_eq_false_iff_ne.2 (Ne.symm fk22)), (beq_iff_eq.2 fk52), (beq_iff_eq.2 (Eq.symm fk52)), (Eq.symm fk52), fk53, (beq_eq_false_iff_ne.2 fk53), (beq_eq_false_iff_ne.2 (Ne.symm fk53)), fk54, (beq_eq_false_iff_ne.2 fk54), (beq_eq_false_iff_ne.2 (Ne.symm fk54)), fk66, (beq_eq_false_iff_ne.2 fk66), (beq_eq_false_iff_ne.2 (Ne.symm fk66)), fk78, (decide_eq_false fk78), fk82, (decide_eq_false fk82), fk87, (beq_eq_false_iff_ne.2 fk87), (beq_eq_false_iff_ne.2 (Ne.symm fk87)), fk96, (decide_eq_true fk96), fk94] <;> omega
                        have e1 := md_unfit (by omega) hc0 e3 (by omega)
                        exact ⟨by rw [tup_two, mdV, e1.1, e1.2], S54.nil⟩
                      · skip
                        refine J.head (.bool false) (congrArg Value.bool (decide_eq_false fk96)) ?_
                        refine J.run 6 K51_252 [(107, .int .i64 (IntKind.wrap .i64 q))] w54 (by kernel_rfl) ?_
                        refine J.head (.int .i64 q) (congrArg (Value.int .i64) (IntWalk.i64_in _ (by omega))) ?_
                        refine J.run 3 K51_253 [(9, .int .i64 0), (8, .int .i64 q)] w54 (by kernel_rfl) ?_
                        refine J.ret Tryd.f51 [.int .i64 q, .int .i64 0] Tryd.func51 ⟨by kernel_rfl, by kernel_rfl, trivial⟩ ?_
                        refine hR _ _ ?_
                        have hc0 : c ≠ 0 := by omega
                        subst hd
                        have e0 := md_core2 (a := a) (b := b) (c := c) (mode := mode) (q := q) (r := r) (m := m) hc0 (by omega) (by omega) (by omega) (by omega) (by omega) (.inl hm2)
                        have e3 : mulDivR a b c mode = q := by rw [e0]; (try simp only [rndB, tup_one, tup_two, tup_three, fk1, (beq_eq_false_iff_ne.2 fk1), (beq_eq_false_iff_ne.2 (Ne.symm fk1)), fk22, (beq_eq_false_iff_ne.2 fk22), (beq_eq_false_iff_ne.2 (Ne.symm fk22)), (beq_iff_eq.2 fk52), (beq_iff_eq.2 (Eq.symm fk52)), (Eq.symm fk52), fk53, (beq_eq_false_iff_ne.2 fk53), (beq_eq_false_iff_ne.2 (Ne.symm fk53)), fk54, (beq_eq_false_iff_ne.2 fk54), (beq_eq_false_iff_ne.2 (Ne.symm fk54)), fk66, (beq_eq_false_iff_ne.2 fk66), (beq_eq_false_iff_ne.2 (Ne.symm fk66)), fk78, (decide_eq_false fk78), fk82, (decide_eq_false fk82), fk87, (beq_eq_false_iff_ne.2 fk87), (beq_eq_false_iff_ne.2 (Ne.symm fk87)), fk96, (decide_eq_false fk96)]) <;> simp [rndB, tup_one, tup_two, tup_three, fk1, (beq_eq_false_iff_ne.2 fk1), (beq_eq_false_iff_ne.2 (Ne.symm fk1)), fk22, (beq_eq_false_iff_ne.2 fk22), (beq_eq_false_iff_ne.2 (Ne.symm fk22)), (beq_iff_eq.2 fk52), (beq_iff_eq.2 (Eq.symm fk52)), (Eq.symm fk52), fk53, (beq_eq_false_iff_ne.2 fk53), (beq_eq_false_iff_ne.2 (Ne.symm fk53)), fk54, (beq_eq_false_iff_ne.2 fk54), (beq_eq_false_iff_ne.2 (Ne.symm fk54)), fk66, (beq_eq_false_iff_ne.2 fk66), (beq_eq_false_iff_ne.2 (Ne.symm fk66)), fk78, (decide_eq_false fk78), fk82, (decide_eq_false fk82), fk87, (beq_eq_false_iff_ne.2 fk87), (beq_eq_false_iff_ne.2 (Ne.symm fk87)), fk96, (decide_eq_false fk96), fk94] <;> omega
                        have e1 := md_fit (by omega) hc0 e3 (by omega)
                        exact ⟨by rw [tup_two, mdV, e1.1, e1.2], S54.nil⟩
      · skip
        refine J.head (.bool true) (congrArg Value.bool (bne_iff_ne.2 fk52)) ?_
        refine J.run 6 K51_254 [(9, .int .i64 1), (8, .int .i64 0)] w (by kernel_rfl) ?_
        refine J.ret Tryd.f51 [.int .i64 0, .int .i64 1] Tryd.func51 ⟨by kernel_rfl, by kernel_rfl, trivial⟩ ?_
        refine hR _ _ ?_
        have e1 : mdX a b c mode = 0 ∧ mdE a b c mode = 1 := by unfold mdX mdE; rw [if_pos (by omega), if_pos (by omega)]; exact ⟨rfl, rfl⟩
        exact ⟨by rw [tup_two, mdV, e1.1, e1.2], S0.nil⟩

end Go.Proofs.YtdilhoibcbihlaaDoor
