/- Walks of functions of this seat, printed by a program over the engine. Conditions: as each theorem says. -/
import Derived.Test.YtpmkdhdcejcpfaaS2
namespace Go.Proofs.Ytpmkdhdcejcpfaa
open Go.Eng Go.RowKit
set_option linter.unusedSimpArgs false
set_option linter.unusedVariables false
theorem hb4 : HasBody Try.prog 4 := fun _ _ => by kernel_rfl
noncomputable def K4_0 : List Item := adv 2 [] (bodyOf Try.f4)
noncomputable def K4_1 : List Item := adv 5 [] (popK K4_0)
noncomputable def K4_2 : List Item := adv 8 [false] (popK K4_1)
noncomputable def K4_3 : List Item := adv 3 [] (popK K4_2)
noncomputable def K4_4 : List Item := adv 5 [true] K4_3
noncomputable def K4_5 : List Item := adv 4 [false] K4_3
noncomputable def K4_6 : List Item := adv 4 [] (popK (popK K4_5))
noncomputable def K4_7 : List Item := adv 13 [] (popK (popK K4_6))
noncomputable def K4_8 : List Item := adv 8 [false] K4_7
noncomputable def K4_9 : List Item := adv 2 [] (popK K4_8)
noncomputable def K4_10 : List Item := adv 3 [] K4_9
noncomputable def K4_11 : List Item := adv 1 [] K4_10
noncomputable def K4_12 : List Item := adv 2 [] K4_11
noncomputable def K4_13 : List Item := adv 3 [] (popK K4_12)
noncomputable def K4_14 : List Item := adv 1 [] K4_13
noncomputable def K4_15 : List Item := adv 1 [] (popK K4_14)
noncomputable def K4_16 : List Item := adv 3 [] K4_15
noncomputable def K4_17 : List Item := adv 4 [] K4_16
noncomputable def K4_18 : List Item := adv 1 [] K4_17
noncomputable def K4_19 : List Item := adv 2 [] (popK K4_18)
noncomputable def K4_20 : List Item := adv 6 [] K4_19
noncomputable def K4_21 : List Item := adv 4 [] (popK K4_20)
noncomputable def K4_22 : List Item := adv 11 [true] K4_21
noncomputable def K4_23 : List Item := adv 1 [] K4_21
noncomputable def K4_24 : List Item := adv 4 [] (popK K4_23)
noncomputable def K4_25 : List Item := adv 5 [true] K4_24
noncomputable def K4_26 : List Item := adv 8 [false] K4_24
noncomputable def K4_27 : List Item := adv 4 [] K4_26
noncomputable def K4_28 : List Item := adv 5 [] K4_27
noncomputable def K4_29 : List Item := adv 10 [true] K4_28
noncomputable def K4_30 : List Item := adv 5 [] (rRest K4_29)
noncomputable def K4_31 : List Item := adv 2 [] K4_30
noncomputable def K4_32 : List Item := adv 3 [] K4_31
noncomputable def K4_33 : List Item := adv 6 [true] K4_32
noncomputable def K4_34 : List Item := adv 2 [] K4_33
noncomputable def K4_35 : List Item := adv 6 [false] K4_34
noncomputable def K4_36 : List Item := adv 5 [true] K4_34
noncomputable def K4_37 : List Item := adv 4 [false] K4_32
noncomputable def K4_38 : List Item := adv 2 [] (popK K4_37)
noncomputable def K4_39 : List Item := adv 5 [true] K4_38
noncomputable def K4_40 : List Item := adv 2 [] K4_39
noncomputable def K4_41 : List Item := adv 1 [] K4_40
noncomputable def K4_42 : List Item := adv 2 [] K4_41
noncomputable def K4_43 : List Item := adv 2 [] K4_42
noncomputable def K4_44 : List Item := adv 3 [] K4_43
noncomputable def K4_45 : List Item := adv 2 [] K4_44
noncomputable def K4_46 : List Item := adv 3 [] K4_45
noncomputable def K4_47 : List Item := adv 6 [false] K4_46
noncomputable def K4_48 : List Item := adv 5 [true] K4_46
noncomputable def K4_49 : List Item := adv 10 [true] K4_44
noncomputable def K4_50 : List Item := adv 15 [true] K4_42
noncomputable def K4_51 : List Item := adv 6 [false] K4_28
noncomputable def K4_52 : List Item := adv 1 [] (popK K4_51)
noncomputable def K4_53 : List Item := adv 2 [true] K4_52
noncomputable def K4_54 : List Item := adv 4 [false] (rRest K4_53)
noncomputable def K4_55 : List Item := adv 3 [] (popK (popK (popK K4_54)))
noncomputable def K4_56 : List Item := adv 4 [true] (rRest K4_55)
noncomputable def K4_57 : List Item := adv 2 [] (popK K4_56)
noncomputable def K4_58 : List Item := adv 7 [] (popK K4_57)
noncomputable def K4_59 : List Item := adv 1 [] (popK (popK K4_58))
noncomputable def K4_60 : List Item := adv 5 [] (popK K4_59)
noncomputable def K4_61 : List Item := adv 1 [] (popK K4_60)
noncomputable def K4_62 : List Item := adv 3 [true] K4_61
noncomputable def K4_63 : List Item := adv 1 [] (popK (popK K4_62))
noncomputable def K4_64 : List Item := adv 3 [] (popK K4_63)
noncomputable def K4_65 : List Item := adv 1 [] (popK (popK K4_64))
noncomputable def K4_66 : List Item := adv 2 [] (popK K4_65)
noncomputable def K4_67 : List Item := adv 6 [false] (rRest K4_55)
noncomputable def K4_68 : List Item := adv 6 [false] (rRest K4_55)
noncomputable def K4_69 : List Item := adv 6 [false] (rRest K4_55)
noncomputable def K4_70 : List Item := adv 5 [true] (rRest K4_53)
noncomputable def K4_71 : List Item := adv 26 [true] K4_17
noncomputable def K4_72 : List Item := adv 8 [] K4_15
noncomputable def K4_73 : List Item := adv 2 [] (popK K4_72)
noncomputable def K4_74 : List Item := adv 5 [] K4_73
noncomputable def K4_75 : List Item := adv 1 [] K4_74
noncomputable def K4_76 : List Item := adv 4 [] (popK K4_75)
noncomputable def K4_77 : List Item := adv 11 [true] K4_76
noncomputable def K4_78 : List Item := adv 1 [] K4_76
noncomputable def K4_79 : List Item := adv 4 [] (popK K4_78)
noncomputable def K4_80 : List Item := adv 5 [true] K4_79
noncomputable def K4_81 : List Item := adv 8 [false] K4_79
noncomputable def K4_82 : List Item := adv 4 [] K4_81
noncomputable def K4_83 : List Item := adv 5 [] K4_82
noncomputable def K4_84 : List Item := adv 10 [true] K4_83
noncomputable def K4_85 : List Item := adv 5 [] (rRest K4_84)
noncomputable def K4_86 : List Item := adv 2 [] K4_85
noncomputable def K4_87 : List Item := adv 3 [] K4_86
noncomputable def K4_88 : List Item := adv 6 [true] K4_87
noncomputable def K4_89 : List Item := adv 2 [] K4_88
noncomputable def K4_90 : List Item := adv 6 [false] K4_89
noncomputable def K4_91 : List Item := adv 5 [true] K4_89
noncomputable def K4_92 : List Item := adv 4 [false] K4_87
noncomputable def K4_93 : List Item := adv 2 [] (popK K4_92)
noncomputable def K4_94 : List Item := adv 5 [true] K4_93
noncomputable def K4_95 : List Item := adv 2 [] K4_94
noncomputable def K4_96 : List Item := adv 1 [] K4_95
noncomputable def K4_97 : List Item := adv 2 [] K4_96
noncomputable def K4_98 : List Item := adv 2 [] K4_97
noncomputable def K4_99 : List Item := adv 3 [] K4_98
noncomputable def K4_100 : List Item := adv 2 [] K4_99
noncomputable def K4_101 : List Item := adv 3 [] K4_100
noncomputable def K4_102 : List Item := adv 6 [false] K4_101
noncomputable def K4_103 : List Item := adv 5 [true] K4_101
noncomputable def K4_104 : List Item := adv 10 [true] K4_99
noncomputable def K4_105 : List Item := adv 15 [true] K4_97
noncomputable def K4_106 : List Item := adv 6 [false] K4_83
noncomputable def K4_107 : List Item := adv 1 [] (popK K4_106)
noncomputable def K4_108 : List Item := adv 2 [true] K4_107
noncomputable def K4_109 : List Item := adv 4 [false] (rRest K4_108)
noncomputable def K4_110 : List Item := adv 3 [] (popK (popK (popK K4_109)))
noncomputable def K4_111 : List Item := adv 4 [true] (rRest K4_110)
noncomputable def K4_112 : List Item := adv 2 [] (popK K4_111)
noncomputable def K4_113 : List Item := adv 7 [] (popK K4_112)
noncomputable def K4_114 : List Item := adv 1 [] (popK (popK K4_113))
noncomputable def K4_115 : List Item := adv 5 [] (popK K4_114)
noncomputable def K4_116 : List Item := adv 1 [] (popK K4_115)
noncomputable def K4_117 : List Item := adv 3 [true] K4_116
noncomputable def K4_118 : List Item := adv 1 [] (popK (popK K4_117))
noncomputable def K4_119 : List Item := adv 3 [] (popK K4_118)
noncomputable def K4_120 : List Item := adv 1 [] (popK (popK K4_119))
noncomputable def K4_121 : List Item := adv 2 [] (popK K4_120)
noncomputable def K4_122 : List Item := adv 6 [false] (rRest K4_110)
noncomputable def K4_123 : List Item := adv 6 [false] (rRest K4_110)
noncomputable def K4_124 : List Item := adv 6 [false] (rRest K4_110)
noncomputable def K4_125 : List Item := adv 5 [true] (rRest K4_108)
noncomputable def K4_126 : List Item := adv 17 [true] K4_74
noncomputable def K4_127 : List Item := adv 36 [true] K4_13
noncomputable def K4_128 : List Item := adv 4 [] (popK (popK K4_5))
noncomputable def K4_129 : List Item := adv 13 [] (popK (popK K4_128))
noncomputable def K4_130 : List Item := adv 11 [true] K4_129
noncomputable def K4_131 : List Item := adv 4 [] (popK (popK K4_5))
noncomputable def K4_132 : List Item := adv 13 [] (popK (popK K4_131))
noncomputable def K4_133 : List Item := adv 8 [false] K4_132
noncomputable def K4_134 : List Item := adv 2 [] (popK K4_133)
noncomputable def K4_135 : List Item := adv 3 [] K4_134
noncomputable def K4_136 : List Item := adv 1 [] K4_135
noncomputable def K4_137 : List Item := adv 2 [] K4_136
noncomputable def K4_138 : List Item := adv 3 [] (popK K4_137)
noncomputable def K4_139 : List Item := adv 1 [] K4_138
noncomputable def K4_140 : List Item := adv 1 [] (popK K4_139)
noncomputable def K4_141 : List Item := adv 3 [] K4_140
noncomputable def K4_142 : List Item := adv 4 [] K4_141
noncomputable def K4_143 : List Item := adv 1 [] K4_142
noncomputable def K4_144 : List Item := adv 2 [] (popK K4_143)
noncomputable def K4_145 : List Item := adv 6 [] K4_144
noncomputable def K4_146 : List Item := adv 4 [] (popK K4_145)
noncomputable def K4_147 : List Item := adv 11 [true] K4_146
noncomputable def K4_148 : List Item := adv 1 [] K4_146
noncomputable def K4_149 : List Item := adv 4 [] (popK K4_148)
noncomputable def K4_150 : List Item := adv 5 [true] K4_149
noncomputable def K4_151 : List Item := adv 8 [false] K4_149
noncomputable def K4_152 : List Item := adv 4 [] K4_151
noncomputable def K4_153 : List Item := adv 5 [] K4_152
noncomputable def K4_154 : List Item := adv 10 [true] K4_153
noncomputable def K4_155 : List Item := adv 5 [] (rRest K4_154)
noncomputable def K4_156 : List Item := adv 2 [] K4_155
noncomputable def K4_157 : List Item := adv 3 [] K4_156
noncomputable def K4_158 : List Item := adv 6 [true] K4_157
noncomputable def K4_159 : List Item := adv 2 [] K4_158
noncomputable def K4_160 : List Item := adv 6 [false] K4_159
noncomputable def K4_161 : List Item := adv 5 [true] K4_159
noncomputable def K4_162 : List Item := adv 4 [false] K4_157
noncomputable def K4_163 : List Item := adv 2 [] (popK K4_162)
noncomputable def K4_164 : List Item := adv 6 [false] K4_163
noncomputable def K4_165 : List Item := adv 3 [] K4_164
noncomputable def K4_166 : List Item := adv 6 [false] K4_165
noncomputable def K4_167 : List Item := adv 5 [true] K4_165
noncomputable def K4_168 : List Item := adv 6 [false] K4_153
noncomputable def K4_169 : List Item := adv 1 [] (popK K4_168)
noncomputable def K4_170 : List Item := adv 2 [false] K4_169
noncomputable def K4_171 : List Item := adv 4 [false] (rRest K4_170)
noncomputable def K4_172 : List Item := adv 3 [] (popK (popK (popK K4_171)))
noncomputable def K4_173 : List Item := adv 4 [true] (rRest K4_172)
noncomputable def K4_174 : List Item := adv 2 [] (popK K4_173)
noncomputable def K4_175 : List Item := adv 7 [] (popK K4_174)
noncomputable def K4_176 : List Item := adv 1 [] (popK (popK K4_175))
noncomputable def K4_177 : List Item := adv 5 [] (popK K4_176)
noncomputable def K4_178 : List Item := adv 1 [] (popK K4_177)
noncomputable def K4_179 : List Item := adv 4 [false] K4_178
noncomputable def K4_180 : List Item := adv 1 [] (popK (popK K4_179))
noncomputable def K4_181 : List Item := adv 2 [] (popK K4_180)
noncomputable def K4_182 : List Item := adv 6 [false] (rRest K4_172)
noncomputable def K4_183 : List Item := adv 6 [false] (rRest K4_172)
noncomputable def K4_184 : List Item := adv 6 [false] (rRest K4_172)
noncomputable def K4_185 : List Item := adv 5 [true] (rRest K4_170)
noncomputable def K4_186 : List Item := adv 26 [true] K4_142
noncomputable def K4_187 : List Item := adv 8 [] K4_140
noncomputable def K4_188 : List Item := adv 2 [] (popK K4_187)
noncomputable def K4_189 : List Item := adv 5 [] K4_188
noncomputable def K4_190 : List Item := adv 1 [] K4_189
noncomputable def K4_191 : List Item := adv 4 [] (popK K4_190)
noncomputable def K4_192 : List Item := adv 11 [true] K4_191
noncomputable def K4_193 : List Item := adv 1 [] K4_191
noncomputable def K4_194 : List Item := adv 4 [] (popK K4_193)
noncomputable def K4_195 : List Item := adv 5 [true] K4_194
noncomputable def K4_196 : List Item := adv 8 [false] K4_194
noncomputable def K4_197 : List Item := adv 4 [] K4_196
noncomputable def K4_198 : List Item := adv 5 [] K4_197
noncomputable def K4_199 : List Item := adv 10 [true] K4_198
noncomputable def K4_200 : List Item := adv 5 [] (rRest K4_199)
noncomputable def K4_201 : List Item := adv 2 [] K4_200
noncomputable def K4_202 : List Item := adv 3 [] K4_201
noncomputable def K4_203 : List Item := adv 6 [true] K4_202
noncomputable def K4_204 : List Item := adv 2 [] K4_203
noncomputable def K4_205 : List Item := adv 6 [false] K4_204
noncomputable def K4_206 : List Item := adv 5 [true] K4_204
noncomputable def K4_207 : List Item := adv 4 [false] K4_202
noncomputable def K4_208 : List Item := adv 2 [] (popK K4_207)
noncomputable def K4_209 : List Item := adv 6 [false] K4_208
noncomputable def K4_210 : List Item := adv 3 [] K4_209
noncomputable def K4_211 : List Item := adv 6 [false] K4_210
noncomputable def K4_212 : List Item := adv 5 [true] K4_210
noncomputable def K4_213 : List Item := adv 6 [false] K4_198
noncomputable def K4_214 : List Item := adv 1 [] (popK K4_213)
noncomputable def K4_215 : List Item := adv 2 [false] K4_214
noncomputable def K4_216 : List Item := adv 4 [false] (rRest K4_215)
noncomputable def K4_217 : List Item := adv 3 [] (popK (popK (popK K4_216)))
noncomputable def K4_218 : List Item := adv 4 [true] (rRest K4_217)
noncomputable def K4_219 : List Item := adv 2 [] (popK K4_218)
noncomputable def K4_220 : List Item := adv 7 [] (popK K4_219)
noncomputable def K4_221 : List Item := adv 1 [] (popK (popK K4_220))
noncomputable def K4_222 : List Item := adv 5 [] (popK K4_221)
noncomputable def K4_223 : List Item := adv 1 [] (popK K4_222)
noncomputable def K4_224 : List Item := adv 4 [false] K4_223
noncomputable def K4_225 : List Item := adv 1 [] (popK (popK K4_224))
noncomputable def K4_226 : List Item := adv 2 [] (popK K4_225)
noncomputable def K4_227 : List Item := adv 6 [false] (rRest K4_217)
noncomputable def K4_228 : List Item := adv 6 [false] (rRest K4_217)
noncomputable def K4_229 : List Item := adv 6 [false] (rRest K4_217)
noncomputable def K4_230 : List Item := adv 5 [true] (rRest K4_215)
noncomputable def K4_231 : List Item := adv 17 [true] K4_189
noncomputable def K4_232 : List Item := adv 36 [true] K4_138
noncomputable def K4_233 : List Item := adv 4 [] (popK (popK K4_5))
noncomputable def K4_234 : List Item := adv 13 [] (popK (popK K4_233))
noncomputable def K4_235 : List Item := adv 11 [true] K4_234
set_option maxRecDepth 20000 in
set_option maxHeartbeats 20000000 in
theorem orders_any (nm : ByteArray) (st ln : Int) (mo sg : Bool) (num off den low high : Int) (w : World) (hnm : nm.size ≤ 9223372036854775807) : Ret Try.prog 4 #[.agg #[.string nm, .int .i64 st, .int .i64 ln, .bool mo, .bool sg, .int .i64 num, .int .i64 off, .int .i64 den, .int .i64 low, .int .i64 high]] w (fun v w' => v = .bool true ∧ Sep w [] w') := by
  have S0 := Sep.refl w
  refine Ret.named fun R hR => ?_
  refine Ret.of_J (N := 194) [(0, .agg #[.string nm, .int .i64 st, .int .i64 ln, .bool mo, .bool sg, .int .i64 num, .int .i64 off, .int .i64 den, .int .i64 low, .int .i64 high])] Try.func4 rfl rfl (Nat.le_of_ble_eq_true (by kernel_rfl)) (by kernel_rfl) ?_
  refine J.run 2 K4_0 [(0, .agg #[.string nm, .int .i64 st, .int .i64 ln, .bool mo, .bool sg, .int .i64 num, .int .i64 off, .int .i64 den, .int .i64 low, .int .i64 high])] w (by kernel_rfl) ?_
  refine J.new S0 1 [.string nm, .int .i64 st, .int .i64 ln, .bool mo, .bool sg, .int .i64 num, .int .i64 off, .int .i64 den, .int .i64 low, .int .i64 high] 23 (by kernel_rfl) ?_
  intro b1 w1 S1
  refine J.run 5 K4_1 [(1, .pointer (some ⟨b1, 0, none⟩))] w1 (by kernel_rfl) ?_
  refine J.callF 10 7 #[] hb7 (by kernel_rfl) (awake_any  _) ?_
  rintro _ w2 ⟨rfl, T1⟩
  have S2 : Sep w [box b1 [.string nm, .int .i64 st, .int .i64 ln, .bool mo, .bool sg, .int .i64 num, .int .i64 off, .int .i64 den, .int .i64 low, .int .i64 high] 23] w2 := S1.trans T1
  clear T1 S1
  refine J.run 8 K4_2 [(12, .pointer (some ⟨b1, 0, none⟩)), (1, .pointer (some ⟨b1, 0, none⟩))] w2 (by kernel_rfl) ?_
  refine J.ok (OK.ldBox S2 0 13 9 0 (.string nm) (by kernel_rfl) rfl (by kernel_rfl)) ?_
  refine J.run 3 K4_3 [(15, .bool (decide ((nm.size : Int) > 60))), (1, .pointer (some ⟨b1, 0, none⟩))] w2 (by kernel_rfl) ?_
  by_cases fk1 : (nm.size : Int) > 60
  · skip
    refine J.head (.bool true) (congrArg Value.bool (decide_eq_true fk1)) ?_
    refine J.run 5 K4_4 [(2, .bool true)] w2 (by kernel_rfl) ?_
    refine J.ret Try.f4 [.bool true] Try.func4 ⟨by kernel_rfl, trivial⟩ ?_
    refine hR _ _ ?_
    exact ⟨rfl, S2.nil⟩
  · skip
    refine J.head (.bool false) (congrArg Value.bool (decide_eq_false fk1)) ?_
    refine J.run 4 K4_5 [(1, .pointer (some ⟨b1, 0, none⟩))] w2 (by kernel_rfl) ?_
    refine J.ok (OK.ldBox S2 0 16 23 0 (.agg #[.string nm, .int .i64 st, .int .i64 ln, .bool mo, .bool sg, .int .i64 num, .int .i64 off, .int .i64 den, .int .i64 low, .int .i64 high]) (by kernel_rfl) rfl (by kernel_rfl)) ?_
    rcases Bool.eq_false_or_eq_true mo with fk2 | fk2
    · skip
      rcases Bool.eq_false_or_eq_true (sigB nm st ln mo sg num off den low high) with fk3 | fk3
      · skip
        obtain ⟨hs1, hs2, hs3, hs4, hs5⟩ := sigB_facts fk3
        refine J.callF 17 11 #[.agg #[.string nm, .int .i64 st, .int .i64 ln, .bool mo, .bool sg, .int .i64 num, .int .i64 off, .int .i64 den, .int .i64 low, .int .i64 high]] hb11 (by kernel_rfl) (bits_any nm st ln mo sg num off den low high _ (by first | omega | decide)) ?_
        rintro _ w3 ⟨ra1, rc1, rfl, T2⟩
        have S3 : Sep w [rowOf encI ra1 rc1 3 1 (bitsF nm st ln mo sg num off den low high), box b1 [.string nm, .int .i64 st, .int .i64 ln, .bool mo, .bool sg, .int .i64 num, .int .i64 off, .int .i64 den, .int .i64 low, .int .i64 high] 23] w3 := S2.trans T2
        clear T2 S2
        obtain ⟨l, hl⟩ : ∃ x : List Int, x = bitsF nm st ln mo sg num off den low high := ⟨_, rfl⟩
        rw [← hl] at S3 ⊢
        have hl2 := hl
        rw [bits_m fk3 fk2] at hl2
        have hll := bits_len fk3
        rw [← hl] at hll
        obtain ⟨hsum, hsg1, hsg2⟩ := lim_sum sg hs1
        have hlb := lim_bounds sg hs1
        have hp32 := pow32 (n := ln.toNat) (by omega)
        have hend := ends_m hs2 hs1 hl2
        have hrel : ∀ i : Int, 0 ≤ i → i + 1 < ln → _ := fun i h0 h1 => rel_m hs2 hs1 hl2 h0 h1
        rw [show (ln - 1).toNat = ((l.length : Int) - 1).toNat by omega] at hend
        refine J.run 4 K4_6 [(3, .slice ra1 l.length rc1), (1, .pointer (some ⟨b1, 0, none⟩))] w3 (by kernel_rfl) ?_
        refine J.ok (OK.ldBox S3 1 19 23 0 (.agg #[.string nm, .int .i64 st, .int .i64 ln, .bool mo, .bool sg, .int .i64 num, .int .i64 off, .int .i64 den, .int .i64 low, .int .i64 high]) (by kernel_rfl) rfl (by kernel_rfl)) ?_
        refine J.callF 20 8 #[.agg #[.string nm, .int .i64 st, .int .i64 ln, .bool mo, .bool sg, .int .i64 num, .int .i64 off, .int .i64 den, .int .i64 low, .int .i64 high]] hb8 (by kernel_rfl) (limits_any nm st ln mo sg num off den low high _ (by omega)) ?_
        rintro _ w4 ⟨rfl, T3⟩
        have S4 : Sep w [rowOf encI ra1 rc1 3 1 l, box b1 [.string nm, .int .i64 st, .int .i64 ln, .bool mo, .bool sg, .int .i64 num, .int .i64 off, .int .i64 den, .int .i64 low, .int .i64 high] 23] w4 := S3.trans T3
        clear T3 S3
        refine J.head (.tuple #[.int .i64 (lowF ln sg), .int .i64 (highF ln sg)]) (by first | (simp only [limV, fk3, reduceCtorEq, ↓reduceIte]; done) | simp [limV, fk3]) ?_
        refine J.run 13 K4_7 [(25, .bool ((l.length : Int) == 0)), (5, .int .i64 (highF ln sg)), (4, .int .i64 (lowF ln sg)), (3, .slice ra1 l.length rc1), (1, .pointer (some ⟨b1, 0, none⟩))] w4 (by kernel_rfl) ?_
        have fk5 : ¬ ((l.length : Int) = 0) := by omega
        refine J.head (.bool false) (congrArg Value.bool (beq_eq_false_iff_ne.2 fk5)) ?_
        refine J.run 8 K4_8 [(34, .pointer (some ⟨b1, 2, none⟩)), (33, .int .i64 (l.length : Int)), (5, .int .i64 (highF ln sg)), (4, .int .i64 (lowF ln sg)), (3, .slice ra1 l.length rc1), (1, .pointer (some ⟨b1, 0, none⟩))] w4 (by kernel_rfl) ?_
        refine J.ok (OK.ldBox S4 1 35 3 2 (.int .i64 ln) (by kernel_rfl) rfl (by kernel_rfl)) ?_
        refine J.run 2 K4_9 [(37, .bool ((l.length : Int) != ln)), (5, .int .i64 (highF ln sg)), (4, .int .i64 (lowF ln sg)), (3, .slice ra1 l.length rc1), (1, .pointer (some ⟨b1, 0, none⟩))] w4 (by kernel_rfl) ?_
        have fk7 : (l.length : Int) = ln := by omega
        refine J.head (.bool false) (congrArg Value.bool (bne_eq_false_iff_eq.2 fk7)) ?_
        refine J.run 3 K4_10 [(40, .int .i64 (IntKind.wrap .i64 ((highF ln sg) - (lowF ln sg)))), (37, .bool false), (5, .int .i64 (highF ln sg)), (4, .int .i64 (lowF ln sg)), (3, .slice ra1 l.length rc1), (1, .pointer (some ⟨b1, 0, none⟩))] w4 (by kernel_rfl) ?_
        refine J.head (.int .i64 ((highF ln sg) - (lowF ln sg))) (congrArg (Value.int .i64) (IntWalk.i64_in _ (by omega))) ?_
        refine J.run 1 K4_11 [(41, .int .i64 (IntKind.wrap .i64 (((highF ln sg) - (lowF ln sg)) + 1))), (37, .bool false), (5, .int .i64 (highF ln sg)), (4, .int .i64 (lowF ln sg)), (3, .slice ra1 l.length rc1), (1, .pointer (some ⟨b1, 0, none⟩))] w4 (by kernel_rfl) ?_
        refine J.head (.int .i64 (((highF ln sg) - (lowF ln sg)) + 1)) (congrArg (Value.int .i64) (IntWalk.i64_in _ (by omega))) ?_
        refine J.run 2 K4_12 [(43, .int .i64 (l.length : Int)), (41, .int .i64 (((highF ln sg) - (lowF ln sg)) + 1)), (37, .bool false), (5, .int .i64 (highF ln sg)), (4, .int .i64 (lowF ln sg)), (3, .slice ra1 l.length rc1), (1, .pointer (some ⟨b1, 0, none⟩))] w4 (by kernel_rfl) ?_
        refine J.ok (OK.shl 44 .i64 1 (l.length : Int) (2 ^ ln.toNat) (by kernel_rfl) (by omega) ((by rw [show ((l.length : Int)) = ln by omega]; exact shl_one (by omega) (by omega)))) ?_
        refine J.run 3 K4_13 [(47, .bool ((((highF ln sg) - (lowF ln sg)) + 1) != (2 ^ ln.toNat))), (5, .int .i64 (highF ln sg)), (4, .int .i64 (lowF ln sg)), (3, .slice ra1 l.length rc1), (1, .pointer (some ⟨b1, 0, none⟩))] w4 (by kernel_rfl) ?_
        by_cases fk8 : (((highF ln sg) - (lowF ln sg)) + 1) = (2 ^ ln.toNat)
        · skip
          refine J.head (.bool false) (congrArg Value.bool (bne_eq_false_iff_eq.2 fk8)) ?_
          refine J.run 1 K4_14 [(48, .pointer (some ⟨b1, 4, none⟩)), (47, .bool false), (5, .int .i64 (highF ln sg)), (4, .int .i64 (lowF ln sg)), (3, .slice ra1 l.length rc1), (1, .pointer (some ⟨b1, 0, none⟩))] w4 (by kernel_rfl) ?_
          refine J.ok (OK.ldBox S4 1 49 4 4 (.bool sg) (by kernel_rfl) rfl (by kernel_rfl)) ?_
          refine J.run 1 K4_15 [(50, .bool sg), (47, .bool false), (5, .int .i64 (highF ln sg)), (4, .int .i64 (lowF ln sg)), (3, .slice ra1 l.length rc1), (1, .pointer (some ⟨b1, 0, none⟩))] w4 (by kernel_rfl) ?_
          rcases Bool.eq_false_or_eq_true sg with fk9 | fk9
          · skip
            refine J.head (.bool true) (congrArg Value.bool fk9) ?_
            have fb2 := hsg1 fk9
            refine J.run 3 K4_16 [(53, .int .i64 (IntKind.wrap .i64 ((lowF ln sg) + (highF ln sg)))), (50, .bool true), (47, .bool false), (5, .int .i64 (highF ln sg)), (4, .int .i64 (lowF ln sg)), (3, .slice ra1 l.length rc1), (1, .pointer (some ⟨b1, 0, none⟩))] w4 (by kernel_rfl) ?_
            refine J.head (.int .i64 ((lowF ln sg) + (highF ln sg))) (congrArg (Value.int .i64) (IntWalk.i64_in _ (by omega))) ?_
            refine J.run 4 K4_17 [(57, .bool (((lowF ln sg) + (highF ln sg)) != (-1))), (5, .int .i64 (highF ln sg)), (4, .int .i64 (lowF ln sg)), (3, .slice ra1 l.length rc1), (1, .pointer (some ⟨b1, 0, none⟩))] w4 (by kernel_rfl) ?_
            by_cases fk10 : ((lowF ln sg) + (highF ln sg)) = (-1)
            · skip
              refine J.head (.bool false) (congrArg Value.bool (bne_eq_false_iff_eq.2 fk10)) ?_
              refine J.run 1 K4_18 [(58, .pointer (some ⟨b1, 4, none⟩)), (57, .bool false), (5, .int .i64 (highF ln sg)), (4, .int .i64 (lowF ln sg)), (3, .slice ra1 l.length rc1), (1, .pointer (some ⟨b1, 0, none⟩))] w4 (by kernel_rfl) ?_
              refine J.ok (OK.ldBox S4 1 59 4 4 (.bool sg) (by kernel_rfl) rfl (by kernel_rfl)) ?_
              refine J.run 2 K4_19 [(61, .bool (!sg)), (57, .bool false), (5, .int .i64 (highF ln sg)), (4, .int .i64 (lowF ln sg)), (3, .slice ra1 l.length rc1), (1, .pointer (some ⟨b1, 0, none⟩))] w4 (by kernel_rfl) ?_
              refine J.head (.bool false) (congrArg Value.bool (by rw [fk9]; rfl)) ?_
              refine J.run 6 K4_20 [(67, .pointer (some ⟨b1, 8, none⟩)), (66, .bool false), (5, .int .i64 (highF ln sg)), (4, .int .i64 (lowF ln sg)), (3, .slice ra1 l.length rc1), (1, .pointer (some ⟨b1, 0, none⟩))] w4 (by kernel_rfl) ?_
              refine J.ok (OK.ldBox S4 1 68 3 8 (.int .i64 low) (by kernel_rfl) rfl (by kernel_rfl)) ?_
              refine J.run 4 K4_21 [(72, .bool (decide (low < (lowF ln sg)))), (5, .int .i64 (highF ln sg)), (3, .slice ra1 l.length rc1), (1, .pointer (some ⟨b1, 0, none⟩))] w4 (by kernel_rfl) ?_
              by_cases fk12 : low < (lowF ln sg)
              · skip
                refine J.head (.bool true) (congrArg Value.bool (decide_eq_true fk12)) ?_
                refine J.run 11 K4_22 [(2, .bool false)] w4 (by kernel_rfl) ?_
                refine J.ret Try.f4 [.bool false] Try.func4 ⟨by kernel_rfl, trivial⟩ ?_
                refine hR _ _ ?_
                exfalso
                omega
              · skip
                refine J.head (.bool false) (congrArg Value.bool (decide_eq_false fk12)) ?_
                refine J.run 1 K4_23 [(73, .pointer (some ⟨b1, 9, none⟩)), (72, .bool false), (5, .int .i64 (highF ln sg)), (3, .slice ra1 l.length rc1), (1, .pointer (some ⟨b1, 0, none⟩))] w4 (by kernel_rfl) ?_
                refine J.ok (OK.ldBox S4 1 74 3 9 (.int .i64 high) (by kernel_rfl) rfl (by kernel_rfl)) ?_
                refine J.run 4 K4_24 [(77, .bool (decide (high > (highF ln sg)))), (3, .slice ra1 l.length rc1), (1, .pointer (some ⟨b1, 0, none⟩))] w4 (by kernel_rfl) ?_
                by_cases fk13 : high > (highF ln sg)
                · skip
                  refine J.head (.bool true) (congrArg Value.bool (decide_eq_true fk13)) ?_
                  refine J.run 5 K4_25 [(2, .bool false)] w4 (by kernel_rfl) ?_
                  refine J.ret Try.f4 [.bool false] Try.func4 ⟨by kernel_rfl, trivial⟩ ?_
                  refine hR _ _ ?_
                  exfalso
                  omega
                · skip
                  refine J.head (.bool false) (congrArg Value.bool (decide_eq_false fk13)) ?_
                  refine J.run 8 K4_26 [(80, .int .i64 (IntKind.wrap .i64 ((l.length : Int) - 1))), (3, .slice ra1 l.length rc1), (1, .pointer (some ⟨b1, 0, none⟩))] w4 (by kernel_rfl) ?_
                  refine J.head (.int .i64 ((l.length : Int) - 1)) (congrArg (Value.int .i64) (IntWalk.i64_in _ (by omega))) ?_
                  refine J.run 4 K4_27 [(81, .int .i64 0), (80, .int .i64 ((l.length : Int) - 1)), (3, .slice ra1 l.length rc1), (1, .pointer (some ⟨b1, 0, none⟩))] w4 (by kernel_rfl) ?_
                  have L4_1 : ∀ (mm_ : Nat) (i : Int) (w5 : World), (0 ≤ i) → (i ≤ ln) → Sep w [rowOf encI ra1 rc1 3 1 l, box b1 [.string nm, .int .i64 st, .int .i64 ln, .bool mo, .bool sg, .int .i64 num, .int .i64 off, .int .i64 den, .int .i64 low, .int .i64 high] 23] w5 → (ln - i).toNat = mm_ → J Try.prog 4 194 R K4_27 [(81, .int .i64 i), (80, .int .i64 ((l.length : Int) - 1)), (3, .slice ra1 l.length rc1), (1, .pointer (some ⟨b1, 0, none⟩))] w5 := by
                    intro mm1
                    induction mm1 using Nat.strongRecOn with
                    | _ mm1 ih1 =>
                    intro i w5 h0 h1 S5 hm1
                    skip
                    refine J.run 5 K4_28 [(82, .bool (decide (i < ((l.length : Int) - 1)))), (81, .int .i64 i), (80, .int .i64 ((l.length : Int) - 1)), (3, .slice ra1 l.length rc1), (1, .pointer (some ⟨b1, 0, none⟩))] w5 (by kernel_rfl) ?_
                    by_cases fk14 : i < ((l.length : Int) - 1)
                    · skip
                      refine J.head (.bool true) (congrArg Value.bool (decide_eq_true fk14)) ?_
                      have hr1 := hrel i h0 (by omega)
                      refine J.run 10 K4_29 [(6, .int .i64 i), (81, .int .i64 i), (80, .int .i64 ((l.length : Int) - 1)), (3, .slice ra1 l.length rc1), (1, .pointer (some ⟨b1, 0, none⟩))] w5 (by kernel_rfl) ?_
                      obtain ⟨p1, hp1⟩ := row1_addr (S5.nth 0 rfl) (show 0 < (l).length by first | omega | (simp; omega))
                      obtain ⟨p2, hp2⟩ := row1_addr (S5.nth 0 rfl) (show 0 < (l).length by first | omega | (simp; omega))
                      refine J.drawStill S5 11 Try.mixed (by kernel_rfl) (by kernel_rfl) (by kernel_rfl) ?_
                      intro w6 S6
                      refine SL.ok (by decide) (OK.run 84 (.slice ra1 l.length rc1) (by kernel_rfl)) ?_
                      refine SL.ok (by decide) (OK.run 85 (.int .i64 i) (by kernel_rfl)) ?_
                      refine SL.ok (by decide) (OK.index 86 28 1 ra1 p1 l.length (i).toNat i (p1.add (i).toNat) (by kernel_rfl) (by kernel_rfl) hp1 (by omega) (by first | omega | (simp; omega)) (by rw [Nat.mul_one])) ?_
                      refine SL.ok (by decide) (OK.ldCell 87 3 (p1.add (i).toNat) (.int .i64 (l.getD (i).toNat 0)) (by kernel_rfl) (by kernel_rfl) (row1_cell (g := (Value.int .i64)) S6 0 rfl hp1 0 (i).toNat (by first | omega | (simp; omega)))) ?_
                      refine SL.ok (by decide) (OK.run 88 (.slice ra1 l.length rc1) (by kernel_rfl)) ?_
                      refine SL.ok (by decide) (OK.run 89 (.int .i64 i) (by kernel_rfl)) ?_
                      refine SL.ok (by decide) (OK.run 90 (.int .i64 (IntKind.wrap .i64 (i + 1))) (by kernel_rfl)) ?_
                      refine SL.head (.int .i64 (i + 1)) (congrArg (Value.int .i64) (IntWalk.i64_in _ (by omega))) ?_
                      refine SL.ok (by decide) (OK.index 91 28 1 ra1 p2 l.length (i + 1).toNat (i + 1) (p2.add (i + 1).toNat) (by kernel_rfl) (by kernel_rfl) hp2 (by omega) (by first | omega | (simp; omega)) (by rw [Nat.mul_one])) ?_
                      refine SL.ok (by decide) (OK.ldCell 92 3 (p2.add (i + 1).toNat) (.int .i64 (l.getD (i + 1).toNat 0)) (by kernel_rfl) (by kernel_rfl) (row1_cell (g := (Value.int .i64)) S6 0 rfl hp2 0 (i + 1).toNat (by first | omega | (simp; omega)))) ?_
                      refine SL.ok (by decide) (OK.run 7 (.int .i64 (l.getD (i).toNat 0)) (by kernel_rfl)) ?_
                      refine SL.ok (by decide) (OK.run 8 (.int .i64 (l.getD (i + 1).toNat 0)) (by kernel_rfl)) ?_
                      refine SL.done ?_
                      refine TL.done (by kernel_rfl) ?_
                      refine J.run 0 (rRest K4_29) [(8, .int .i64 (l.getD (i + 1).toNat 0)), (7, .int .i64 (l.getD (i).toNat 0)), (81, .int .i64 i), (80, .int .i64 ((l.length : Int) - 1)), (3, .slice ra1 l.length rc1), (1, .pointer (some ⟨b1, 0, none⟩))] w6 (by kernel_rfl) ?_
                      refine J.run 5 K4_30 [(95, .int .i64 (IntKind.wrap .i64 (Int.tdiv (l.getD (i).toNat 0) 8))), (8, .int .i64 (l.getD (i + 1).toNat 0)), (7, .int .i64 (l.getD (i).toNat 0)), (81, .int .i64 i), (80, .int .i64 ((l.length : Int) - 1)), (3, .slice ra1 l.length rc1), (1, .pointer (some ⟨b1, 0, none⟩))] w6 (by kernel_rfl) ?_
                      refine J.head (.int .i64 ((l.getD (i).toNat 0) / 8)) (congrArg (Value.int .i64) (IntWalk.i64_quo _ _ (by omega))) ?_
                      refine J.run 2 K4_31 [(97, .int .i64 (IntKind.wrap .i64 (Int.tdiv (l.getD (i + 1).toNat 0) 8))), (95, .int .i64 ((l.getD (i).toNat 0) / 8)), (8, .int .i64 (l.getD (i + 1).toNat 0)), (7, .int .i64 (l.getD (i).toNat 0)), (81, .int .i64 i), (80, .int .i64 ((l.length : Int) - 1)), (3, .slice ra1 l.length rc1), (1, .pointer (some ⟨b1, 0, none⟩))] w6 (by kernel_rfl) ?_
                      refine J.head (.int .i64 ((l.getD (i + 1).toNat 0) / 8)) (congrArg (Value.int .i64) (IntWalk.i64_quo _ _ (by omega))) ?_
                      refine J.run 3 K4_32 [(93, .bool (((l.getD (i).toNat 0) / 8) == ((l.getD (i + 1).toNat 0) / 8))), (8, .int .i64 (l.getD (i + 1).toNat 0)), (7, .int .i64 (l.getD (i).toNat 0)), (81, .int .i64 i), (80, .int .i64 ((l.length : Int) - 1)), (3, .slice ra1 l.length rc1), (1, .pointer (some ⟨b1, 0, none⟩))] w6 (by kernel_rfl) ?_
                      by_cases fk15 : ((l.getD (i).toNat 0) / 8) = ((l.getD (i + 1).toNat 0) / 8)
                      · skip
                        refine J.head (.bool true) (congrArg Value.bool (beq_iff_eq.2 fk15)) ?_
                        refine J.run 6 K4_33 [(101, .int .i64 (IntKind.wrap .i64 ((l.getD (i).toNat 0) + 1))), (99, .int .i64 (l.getD (i + 1).toNat 0)), (81, .int .i64 i), (80, .int .i64 ((l.length : Int) - 1)), (3, .slice ra1 l.length rc1), (1, .pointer (some ⟨b1, 0, none⟩))] w6 (by kernel_rfl) ?_
                        refine J.head (.int .i64 ((l.getD (i).toNat 0) + 1)) (congrArg (Value.int .i64) (IntWalk.i64_in _ (by omega))) ?_
                        refine J.run 2 K4_34 [(102, .bool ((l.getD (i + 1).toNat 0) != ((l.getD (i).toNat 0) + 1))), (81, .int .i64 i), (80, .int .i64 ((l.length : Int) - 1)), (3, .slice ra1 l.length rc1), (1, .pointer (some ⟨b1, 0, none⟩))] w6 (by kernel_rfl) ?_
                        by_cases fk16 : (l.getD (i + 1).toNat 0) = ((l.getD (i).toNat 0) + 1)
                        · skip
                          refine J.head (.bool false) (congrArg Value.bool (bne_eq_false_iff_eq.2 fk16)) ?_
                          refine J.run 6 K4_35 [(127, .int .i64 (IntKind.wrap .i64 (i + 1))), (80, .int .i64 ((l.length : Int) - 1)), (3, .slice ra1 l.length rc1), (1, .pointer (some ⟨b1, 0, none⟩))] w6 (by kernel_rfl) ?_
                          refine J.head (.int .i64 (i + 1)) (congrArg (Value.int .i64) (IntWalk.i64_in _ (by omega))) ?_
                          refine J.run 3 K4_27 [(81, .int .i64 (i + 1)), (80, .int .i64 ((l.length : Int) - 1)), (3, .slice ra1 l.length rc1), (1, .pointer (some ⟨b1, 0, none⟩))] w6 (by kernel_rfl) ?_
                          refine J.run 0 K4_27 [(81, .int .i64 (i + 1)), (80, .int .i64 ((l.length : Int) - 1)), (3, .slice ra1 l.length rc1), (1, .pointer (some ⟨b1, 0, none⟩))] w6 (by kernel_rfl) ?_
                          exact ih1 _ (show (ln - (i + 1)).toNat < mm1 from by omega) (i + 1) w6 (by omega) (by omega) S6 rfl
                        · skip
                          refine J.head (.bool true) (congrArg Value.bool (bne_iff_ne.2 fk16)) ?_
                          refine J.run 5 K4_36 [(2, .bool false)] w6 (by kernel_rfl) ?_
                          refine J.ret Try.f4 [.bool false] Try.func4 ⟨by kernel_rfl, trivial⟩ ?_
                          refine hR _ _ ?_
                          exfalso
                          omega
                      · skip
                        refine J.head (.bool false) (congrArg Value.bool (beq_eq_false_iff_ne.2 fk15)) ?_
                        refine J.run 4 K4_37 [(104, .pointer (some ⟨b1, 3, none⟩)), (8, .int .i64 (l.getD (i + 1).toNat 0)), (7, .int .i64 (l.getD (i).toNat 0)), (81, .int .i64 i), (80, .int .i64 ((l.length : Int) - 1)), (3, .slice ra1 l.length rc1), (1, .pointer (some ⟨b1, 0, none⟩))] w6 (by kernel_rfl) ?_
                        refine J.ok (OK.ldBox S6 1 105 4 3 (.bool mo) (by kernel_rfl) rfl (by kernel_rfl)) ?_
                        refine J.run 2 K4_38 [(103, .bool mo), (8, .int .i64 (l.getD (i + 1).toNat 0)), (7, .int .i64 (l.getD (i).toNat 0)), (81, .int .i64 i), (80, .int .i64 ((l.length : Int) - 1)), (3, .slice ra1 l.length rc1), (1, .pointer (some ⟨b1, 0, none⟩))] w6 (by kernel_rfl) ?_
                        refine J.head (.bool true) (congrArg Value.bool fk2) ?_
                        refine J.run 5 K4_39 [(107, .int .i64 (IntKind.wrap .i64 (Int.tdiv (l.getD (i + 1).toNat 0) 8))), (8, .int .i64 (l.getD (i + 1).toNat 0)), (7, .int .i64 (l.getD (i).toNat 0)), (81, .int .i64 i), (80, .int .i64 ((l.length : Int) - 1)), (3, .slice ra1 l.length rc1), (1, .pointer (some ⟨b1, 0, none⟩))] w6 (by kernel_rfl) ?_
                        refine J.head (.int .i64 ((l.getD (i + 1).toNat 0) / 8)) (congrArg (Value.int .i64) (IntWalk.i64_quo _ _ (by omega))) ?_
                        refine J.run 2 K4_40 [(109, .int .i64 (IntKind.wrap .i64 (Int.tdiv (l.getD (i).toNat 0) 8))), (107, .int .i64 ((l.getD (i + 1).toNat 0) / 8)), (8, .int .i64 (l.getD (i + 1).toNat 0)), (7, .int .i64 (l.getD (i).toNat 0)), (81, .int .i64 i), (80, .int .i64 ((l.length : Int) - 1)), (3, .slice ra1 l.length rc1), (1, .pointer (some ⟨b1, 0, none⟩))] w6 (by kernel_rfl) ?_
                        refine J.head (.int .i64 ((l.getD (i).toNat 0) / 8)) (congrArg (Value.int .i64) (IntWalk.i64_quo _ _ (by omega))) ?_
                        refine J.run 1 K4_41 [(110, .int .i64 (IntKind.wrap .i64 (((l.getD (i).toNat 0) / 8) - 1))), (107, .int .i64 ((l.getD (i + 1).toNat 0) / 8)), (8, .int .i64 (l.getD (i + 1).toNat 0)), (7, .int .i64 (l.getD (i).toNat 0)), (81, .int .i64 i), (80, .int .i64 ((l.length : Int) - 1)), (3, .slice ra1 l.length rc1), (1, .pointer (some ⟨b1, 0, none⟩))] w6 (by kernel_rfl) ?_
                        refine J.head (.int .i64 (((l.getD (i).toNat 0) / 8) - 1)) (congrArg (Value.int .i64) (IntWalk.i64_in _ (by omega))) ?_
                        refine J.run 2 K4_42 [(112, .bool (((l.getD (i + 1).toNat 0) / 8) != (((l.getD (i).toNat 0) / 8) - 1))), (8, .int .i64 (l.getD (i + 1).toNat 0)), (7, .int .i64 (l.getD (i).toNat 0)), (81, .int .i64 i), (80, .int .i64 ((l.length : Int) - 1)), (3, .slice ra1 l.length rc1), (1, .pointer (some ⟨b1, 0, none⟩))] w6 (by kernel_rfl) ?_
                        by_cases fk18 : ((l.getD (i + 1).toNat 0) / 8) = (((l.getD (i).toNat 0) / 8) - 1)
                        · skip
                          refine J.head (.bool false) (congrArg Value.bool (bne_eq_false_iff_eq.2 fk18)) ?_
                          refine J.run 2 K4_43 [(114, .int .i64 (Int.tmod (l.getD (i).toNat 0) 8)), (112, .bool false), (8, .int .i64 (l.getD (i + 1).toNat 0)), (81, .int .i64 i), (80, .int .i64 ((l.length : Int) - 1)), (3, .slice ra1 l.length rc1), (1, .pointer (some ⟨b1, 0, none⟩))] w6 (by kernel_rfl) ?_
                          refine J.head (.int .i64 ((l.getD (i).toNat 0) % 8)) (congrArg (Value.int .i64) (IntWalk.rem_in _ _ (by omega))) ?_
                          refine J.run 3 K4_44 [(117, .bool (((l.getD (i).toNat 0) % 8) != 7)), (8, .int .i64 (l.getD (i + 1).toNat 0)), (81, .int .i64 i), (80, .int .i64 ((l.length : Int) - 1)), (3, .slice ra1 l.length rc1), (1, .pointer (some ⟨b1, 0, none⟩))] w6 (by kernel_rfl) ?_
                          by_cases fk19 : ((l.getD (i).toNat 0) % 8) = 7
                          · skip
                            refine J.head (.bool false) (congrArg Value.bool (bne_eq_false_iff_eq.2 fk19)) ?_
                            refine J.run 2 K4_45 [(119, .int .i64 (Int.tmod (l.getD (i + 1).toNat 0) 8)), (117, .bool false), (81, .int .i64 i), (80, .int .i64 ((l.length : Int) - 1)), (3, .slice ra1 l.length rc1), (1, .pointer (some ⟨b1, 0, none⟩))] w6 (by kernel_rfl) ?_
                            refine J.head (.int .i64 ((l.getD (i + 1).toNat 0) % 8)) (congrArg (Value.int .i64) (IntWalk.rem_in _ _ (by omega))) ?_
                            refine J.run 3 K4_46 [(121, .bool (((l.getD (i + 1).toNat 0) % 8) != 0)), (81, .int .i64 i), (80, .int .i64 ((l.length : Int) - 1)), (3, .slice ra1 l.length rc1), (1, .pointer (some ⟨b1, 0, none⟩))] w6 (by kernel_rfl) ?_
                            by_cases fk20 : ((l.getD (i + 1).toNat 0) % 8) = 0
                            · skip
                              refine J.head (.bool false) (congrArg Value.bool (bne_eq_false_iff_eq.2 fk20)) ?_
                              refine J.run 6 K4_47 [(127, .int .i64 (IntKind.wrap .i64 (i + 1))), (80, .int .i64 ((l.length : Int) - 1)), (3, .slice ra1 l.length rc1), (1, .pointer (some ⟨b1, 0, none⟩))] w6 (by kernel_rfl) ?_
                              refine J.head (.int .i64 (i + 1)) (congrArg (Value.int .i64) (IntWalk.i64_in _ (by omega))) ?_
                              refine J.run 3 K4_27 [(81, .int .i64 (i + 1)), (80, .int .i64 ((l.length : Int) - 1)), (3, .slice ra1 l.length rc1), (1, .pointer (some ⟨b1, 0, none⟩))] w6 (by kernel_rfl) ?_
                              refine J.run 0 K4_27 [(81, .int .i64 (i + 1)), (80, .int .i64 ((l.length : Int) - 1)), (3, .slice ra1 l.length rc1), (1, .pointer (some ⟨b1, 0, none⟩))] w6 (by kernel_rfl) ?_
                              exact ih1 _ (show (ln - (i + 1)).toNat < mm1 from by omega) (i + 1) w6 (by omega) (by omega) S6 rfl
                            · skip
                              refine J.head (.bool true) (congrArg Value.bool (bne_iff_ne.2 fk20)) ?_
                              refine J.run 5 K4_48 [(2, .bool false)] w6 (by kernel_rfl) ?_
                              refine J.ret Try.f4 [.bool false] Try.func4 ⟨by kernel_rfl, trivial⟩ ?_
                              refine hR _ _ ?_
                              exfalso
                              omega
                          · skip
                            refine J.head (.bool true) (congrArg Value.bool (bne_iff_ne.2 fk19)) ?_
                            refine J.run 10 K4_49 [(2, .bool false)] w6 (by kernel_rfl) ?_
                            refine J.ret Try.f4 [.bool false] Try.func4 ⟨by kernel_rfl, trivial⟩ ?_
                            refine hR _ _ ?_
                            exfalso
                            omega
                        · skip
                          refine J.head (.bool true) (congrArg Value.bool (bne_iff_ne.2 fk18)) ?_
                          refine J.run 15 K4_50 [(2, .bool false)] w6 (by kernel_rfl) ?_
                          refine J.ret Try.f4 [.bool false] Try.func4 ⟨by kernel_rfl, trivial⟩ ?_
                          refine hR _ _ ?_
                          exfalso
                          omega
                    · skip
                      refine J.head (.bool false) (congrArg Value.bool (decide_eq_false fk14)) ?_
                      refine J.run 6 K4_51 [(128, .pointer (some ⟨b1, 3, none⟩)), (3, .slice ra1 l.length rc1), (1, .pointer (some ⟨b1, 0, none⟩))] w5 (by kernel_rfl) ?_
                      refine J.ok (OK.ldBox S5 1 129 4 3 (.bool mo) (by kernel_rfl) rfl (by kernel_rfl)) ?_
                      refine J.run 1 K4_52 [(129, .bool mo), (3, .slice ra1 l.length rc1), (1, .pointer (some ⟨b1, 0, none⟩))] w5 (by kernel_rfl) ?_
                      refine J.head (.bool true) (congrArg Value.bool fk2) ?_
                      refine J.run 2 K4_53 [(3, .slice ra1 l.length rc1), (1, .pointer (some ⟨b1, 0, none⟩))] w5 (by kernel_rfl) ?_
                      obtain ⟨p3, hp3⟩ := row1_addr (S5.nth 0 rfl) (show 0 < (l).length by first | omega | (simp; omega))
                      refine J.drawStill S5 9 Try.mixed (by kernel_rfl) (by kernel_rfl) (by kernel_rfl) ?_
                      intro w7 S7
                      refine SL.ok (by decide) (OK.run 130 (.slice ra1 l.length rc1) (by kernel_rfl)) ?_
                      refine SL.ok (by decide) (OK.run 131 (.slice ra1 l.length rc1) (by kernel_rfl)) ?_
                      refine SL.ok (by decide) (OK.run 132 (.int .i64 (l.length : Int)) (by kernel_rfl)) ?_
                      refine SL.ok (by decide) (OK.run 133 (.int .i64 (IntKind.wrap .i64 ((l.length : Int) - 1))) (by kernel_rfl)) ?_
                      refine SL.head (.int .i64 ((l.length : Int) - 1)) (congrArg (Value.int .i64) (IntWalk.i64_in _ (by omega))) ?_
                      refine SL.ok (by decide) (OK.index 134 28 1 ra1 p3 l.length ((l.length : Int) - 1).toNat ((l.length : Int) - 1) (p3.add ((l.length : Int) - 1).toNat) (by kernel_rfl) (by kernel_rfl) hp3 (by omega) (by first | omega | (simp; omega)) (by rw [Nat.mul_one])) ?_
                      refine SL.ok (by decide) (OK.ldCell 135 3 (p3.add ((l.length : Int) - 1).toNat) (.int .i64 (l.getD ((l.length : Int) - 1).toNat 0)) (by kernel_rfl) (by kernel_rfl) (row1_cell (g := (Value.int .i64)) S7 0 rfl hp3 0 ((l.length : Int) - 1).toNat (by first | omega | (simp; omega)))) ?_
                      refine SL.ok (by decide) (OK.run 136 (.pointer (some ⟨b1, 1, none⟩)) (by kernel_rfl)) ?_
                      refine SL.ok (by decide) (OK.ldBox S7 1 137 3 1 (.int .i64 st) (by kernel_rfl) rfl (by kernel_rfl)) ?_
                      refine SL.ok (by decide) (OK.run 138 (.bool ((l.getD ((l.length : Int) - 1).toNat 0) != st)) (by kernel_rfl)) ?_
                      refine SL.done ?_
                      refine TL.done (by kernel_rfl) ?_
                      refine J.run 0 (rRest K4_53) [(138, .bool ((l.getD ((l.length : Int) - 1).toNat 0) != st)), (3, .slice ra1 l.length rc1), (1, .pointer (some ⟨b1, 0, none⟩))] w7 (by kernel_rfl) ?_
                      by_cases fk22 : (l.getD ((l.length : Int) - 1).toNat 0) = st
                      · skip
                        refine J.head (.bool false) (congrArg Value.bool (bne_eq_false_iff_eq.2 fk22)) ?_
                        refine J.run 4 K4_54 [(3, .slice ra1 l.length rc1), (1, .pointer (some ⟨b1, 0, none⟩))] w7 (by kernel_rfl) ?_
                        refine J.ok (OK.ldBox S7 1 145 23 0 (.agg #[.string nm, .int .i64 st, .int .i64 ln, .bool mo, .bool sg, .int .i64 num, .int .i64 off, .int .i64 den, .int .i64 low, .int .i64 high]) (by kernel_rfl) rfl (by kernel_rfl)) ?_
                        refine J.new S7 9 [.string ByteArray.empty, .int .i64 0, .int .i64 0, .bool false, .bool false, .int .i64 0, .int .i64 0, .int .i64 0, .int .i64 0, .int .i64 0] 23 (by kernel_rfl) ?_
                        intro b2 w8 S8
                        refine J.stBox S8 0 23 0 (.agg #[.string nm, .int .i64 st, .int .i64 ln, .bool mo, .bool sg, .int .i64 num, .int .i64 off, .int .i64 den, .int .i64 low, .int .i64 high]) [.string nm, .int .i64 st, .int .i64 ln, .bool mo, .bool sg, .int .i64 num, .int .i64 off, .int .i64 den, .int .i64 low, .int .i64 high] [box b2 [.string nm, .int .i64 st, .int .i64 ln, .bool mo, .bool sg, .int .i64 num, .int .i64 off, .int .i64 den, .int .i64 low, .int .i64 high] 23, rowOf encI ra1 rc1 3 1 l, box b1 [.string nm, .int .i64 st, .int .i64 ln, .bool mo, .bool sg, .int .i64 num, .int .i64 off, .int .i64 den, .int .i64 low, .int .i64 high] 23] (by kernel_rfl) rfl (by kernel_rfl) (by kernel_rfl) rfl ?_
                        intro w9 S9
                        refine J.run 3 K4_55 [(9, .pointer (some ⟨b2, 0, none⟩)), (3, .slice ra1 l.length rc1), (1, .pointer (some ⟨b1, 0, none⟩))] w9 (by kernel_rfl) ?_
                        by_cases fk23 : ((l.getD 0 0) / 8) = ((l.getD ((l.length : Int) - 1).toNat 0) / 8)
                        · skip
                          by_cases fk24 : (l.getD 0 0) ≥ 0
                          · skip
                            obtain ⟨p4, hp4⟩ := row1_addr (S9.nth 1 rfl) (show 0 < (l).length by first | omega | (simp; omega))
                            refine J.drawStill S9 27 Try.mixed (by kernel_rfl) (by kernel_rfl) (by kernel_rfl) ?_
                            intro w10 S10
                            refine SL.ok (by decide) (OK.run 146 (.slice ra1 l.length rc1) (by kernel_rfl)) ?_
                            refine SL.ok (by decide) (OK.index 147 28 1 ra1 p4 l.length 0 0 (p4.add 0) (by kernel_rfl) (by kernel_rfl) hp4 (by omega) (by first | omega | (simp; omega)) (by rw [Nat.mul_one])) ?_
                            refine SL.ok (by decide) (OK.ldCell 148 3 (p4.add 0) (.int .i64 (l.getD 0 0)) (by kernel_rfl) (by kernel_rfl) (row1_cell (g := (Value.int .i64)) S10 1 rfl hp4 0 0 (by first | omega | (simp; omega)))) ?_
                            refine SL.ok (by decide) (OK.run 149 (.int .i64 (IntKind.wrap .i64 (Int.tdiv (l.getD 0 0) 8))) (by kernel_rfl)) ?_
                            refine SL.head (.int .i64 ((l.getD 0 0) / 8)) (congrArg (Value.int .i64) (IntWalk.i64_quo _ _ (by omega))) ?_
                            refine SL.ok (by decide) (OK.run 150 (.slice ra1 l.length rc1) (by kernel_rfl)) ?_
                            refine SL.ok (by decide) (OK.run 151 (.slice ra1 l.length rc1) (by kernel_rfl)) ?_
                            refine SL.ok (by decide) (OK.run 152 (.int .i64 (l.length : Int)) (by kernel_rfl)) ?_
                            refine SL.ok (by decide) (OK.run 153 (.int .i64 (IntKind.wrap .i64 ((l.length : Int) - 1))) (by kernel_rfl)) ?_
                            refine SL.head (.int .i64 ((l.length : Int) - 1)) (congrArg (Value.int .i64) (IntWalk.i64_in _ (by omega))) ?_
                            refine SL.ok (by decide) (OK.index 154 28 1 ra1 p3 l.length ((l.length : Int) - 1).toNat ((l.length : Int) - 1) (p3.add ((l.length : Int) - 1).toNat) (by kernel_rfl) (by kernel_rfl) hp3 (by omega) (by first | omega | (simp; omega)) (by rw [Nat.mul_one])) ?_
                            refine SL.ok (by decide) (OK.ldCell 155 3 (p3.add ((l.length : Int) - 1).toNat) (.int .i64 (l.getD ((l.length : Int) - 1).toNat 0)) (by kernel_rfl) (by kernel_rfl) (row1_cell (g := (Value.int .i64)) S10 1 rfl hp3 0 ((l.length : Int) - 1).toNat (by first | omega | (simp; omega)))) ?_
                            refine SL.ok (by decide) (OK.run 156 (.int .i64 (IntKind.wrap .i64 (Int.tdiv (l.getD ((l.length : Int) - 1).toNat 0) 8))) (by kernel_rfl)) ?_
                            refine SL.head (.int .i64 ((l.getD ((l.length : Int) - 1).toNat 0) / 8)) (congrArg (Value.int .i64) (IntWalk.i64_quo _ _ (by omega))) ?_
                            refine SL.ok (by decide) (OK.run 157 (.bool (((l.getD 0 0) / 8) == ((l.getD ((l.length : Int) - 1).toNat 0) / 8))) (by kernel_rfl)) ?_
                            refine SL.head (.bool true) (congrArg Value.bool (beq_iff_eq.2 fk23)) ?_
                            refine SL.ok (by decide) (OK.run 158 (.bool true) (by kernel_rfl)) ?_
                            refine SL.ok (by decide) (OK.run 159 (.slice ra1 l.length rc1) (by kernel_rfl)) ?_
                            refine SL.ok (by decide) (OK.index 160 28 1 ra1 p4 l.length 0 0 (p4.add 0) (by kernel_rfl) (by kernel_rfl) hp4 (by omega) (by first | omega | (simp; omega)) (by rw [Nat.mul_one])) ?_
                            refine SL.ok (by decide) (OK.ldCell 161 3 (p4.add 0) (.int .i64 (l.getD 0 0)) (by kernel_rfl) (by kernel_rfl) (row1_cell (g := (Value.int .i64)) S10 1 rfl hp4 0 0 (by first | omega | (simp; omega)))) ?_
                            refine SL.ok (by decide) (OK.run 162 (.bool (decide ((l.getD 0 0) ≥ 0))) (by kernel_rfl)) ?_
                            refine SL.head (.bool true) (congrArg Value.bool (decide_eq_true fk24)) ?_
                            refine SL.ok (by decide) (OK.run 163 (.bool true) (by kernel_rfl)) ?_
                            refine SL.ok (by decide) (OK.run 164 (.bool true) (by kernel_rfl)) ?_
                            refine SL.ok (by decide) (OK.run 165 (.slice ra1 l.length rc1) (by kernel_rfl)) ?_
                            refine SL.ok (by decide) (OK.run 166 (.slice ra1 l.length rc1) (by kernel_rfl)) ?_
                            refine SL.ok (by decide) (OK.run 167 (.int .i64 (l.length : Int)) (by kernel_rfl)) ?_
                            refine SL.ok (by decide) (OK.run 168 (.int .i64 (IntKind.wrap .i64 ((l.length : Int) - 1))) (by kernel_rfl)) ?_
                            refine SL.head (.int .i64 ((l.length : Int) - 1)) (congrArg (Value.int .i64) (IntWalk.i64_in _ (by omega))) ?_
                            refine SL.ok (by decide) (OK.index 169 28 1 ra1 p3 l.length ((l.length : Int) - 1).toNat ((l.length : Int) - 1) (p3.add ((l.length : Int) - 1).toNat) (by kernel_rfl) (by kernel_rfl) hp3 (by omega) (by first | omega | (simp; omega)) (by rw [Nat.mul_one])) ?_
                            refine SL.ok (by decide) (OK.ldCell 170 3 (p3.add ((l.length : Int) - 1).toNat) (.int .i64 (l.getD ((l.length : Int) - 1).toNat 0)) (by kernel_rfl) (by kernel_rfl) (row1_cell (g := (Value.int .i64)) S10 1 rfl hp3 0 ((l.length : Int) - 1).toNat (by first | omega | (simp; omega)))) ?_
                            refine SL.ok (by decide) (OK.run 171 (.bool (decide ((l.getD ((l.length : Int) - 1).toNat 0) < 64))) (by kernel_rfl)) ?_
                            refine SL.ok (by decide) (OK.run 172 (.bool (decide ((l.getD ((l.length : Int) - 1).toNat 0) < 64))) (by kernel_rfl)) ?_
                            refine SL.done ?_
                            refine TL.done (by kernel_rfl) ?_
                            refine J.run 0 (rRest K4_55) [(172, .bool (decide ((l.getD ((l.length : Int) - 1).toNat 0) < 64))), (9, .pointer (some ⟨b2, 0, none⟩)), (3, .slice ra1 l.length rc1), (1, .pointer (some ⟨b1, 0, none⟩))] w10 (by kernel_rfl) ?_
                            by_cases fk25 : (l.getD ((l.length : Int) - 1).toNat 0) < 64
                            · skip
                              refine J.head (.bool true) (congrArg Value.bool (decide_eq_true fk25)) ?_
                              refine J.run 4 K4_56 [(173, .pointer (some ⟨b1, 3, none⟩)), (9, .pointer (some ⟨b2, 0, none⟩)), (3, .slice ra1 l.length rc1), (1, .pointer (some ⟨b1, 0, none⟩))] w10 (by kernel_rfl) ?_
                              refine J.ok (OK.ldBox S10 2 174 4 3 (.bool mo) (by kernel_rfl) rfl (by kernel_rfl)) ?_
                              refine J.run 2 K4_57 [(176, .pointer (some ⟨b2, 3, none⟩)), (175, .bool (!mo)), (9, .pointer (some ⟨b2, 0, none⟩)), (3, .slice ra1 l.length rc1), (1, .pointer (some ⟨b1, 0, none⟩))] w10 (by kernel_rfl) ?_
                              refine J.stBox S10 0 4 3 (.bool (!mo)) [.string nm, .int .i64 st, .int .i64 ln, .bool (!mo), .bool sg, .int .i64 num, .int .i64 off, .int .i64 den, .int .i64 low, .int .i64 high] [box b2 [.string nm, .int .i64 st, .int .i64 ln, .bool (!mo), .bool sg, .int .i64 num, .int .i64 off, .int .i64 den, .int .i64 low, .int .i64 high] 23, rowOf encI ra1 rc1 3 1 l, box b1 [.string nm, .int .i64 st, .int .i64 ln, .bool mo, .bool sg, .int .i64 num, .int .i64 off, .int .i64 den, .int .i64 low, .int .i64 high] 23] (by kernel_rfl) rfl (by kernel_rfl) (by kernel_rfl) rfl ?_
                              intro w11 S11
                              refine J.run 7 K4_58 [(180, .int .i64 (IntKind.wrap .i64 ((l.length : Int) - 1))), (177, .slice ra1 l.length rc1), (9, .pointer (some ⟨b2, 0, none⟩)), (3, .slice ra1 l.length rc1), (1, .pointer (some ⟨b1, 0, none⟩))] w11 (by kernel_rfl) ?_
                              refine J.head (.int .i64 ((l.length : Int) - 1)) (congrArg (Value.int .i64) (IntWalk.i64_in _ (by omega))) ?_
                              refine J.ok (OK.index 181 28 1 ra1 p3 l.length ((l.length : Int) - 1).toNat ((l.length : Int) - 1) (p3.add ((l.length : Int) - 1).toNat) (by kernel_rfl) (by kernel_rfl) hp3 (by omega) (by first | omega | (simp; omega)) (by rw [Nat.mul_one])) ?_
                              refine J.ok (OK.ldCell 182 3 (p3.add ((l.length : Int) - 1).toNat) (.int .i64 (l.getD ((l.length : Int) - 1).toNat 0)) (by kernel_rfl) (by kernel_rfl) (row1_cell (g := (Value.int .i64)) S11 1 rfl hp3 0 ((l.length : Int) - 1).toNat (by first | omega | (simp; omega)))) ?_
                              refine J.run 1 K4_59 [(183, .pointer (some ⟨b2, 1, none⟩)), (182, .int .i64 (l.getD ((l.length : Int) - 1).toNat 0)), (9, .pointer (some ⟨b2, 0, none⟩)), (3, .slice ra1 l.length rc1), (1, .pointer (some ⟨b1, 0, none⟩))] w11 (by kernel_rfl) ?_
                              refine J.stBox S11 0 3 1 (.int .i64 (l.getD ((l.length : Int) - 1).toNat 0)) [.string nm, .int .i64 (l.getD ((l.length : Int) - 1).toNat 0), .int .i64 ln, .bool (!mo), .bool sg, .int .i64 num, .int .i64 off, .int .i64 den, .int .i64 low, .int .i64 high] [box b2 [.string nm, .int .i64 (l.getD ((l.length : Int) - 1).toNat 0), .int .i64 ln, .bool (!mo), .bool sg, .int .i64 num, .int .i64 off, .int .i64 den, .int .i64 low, .int .i64 high] 23, rowOf encI ra1 rc1 3 1 l, box b1 [.string nm, .int .i64 st, .int .i64 ln, .bool mo, .bool sg, .int .i64 num, .int .i64 off, .int .i64 den, .int .i64 low, .int .i64 high] 23] (by kernel_rfl) rfl (by kernel_rfl) (by kernel_rfl) rfl ?_
                              intro w12 S12
                              refine J.run 5 K4_60 [(184, .pointer (some ⟨b1, 3, none⟩)), (9, .pointer (some ⟨b2, 0, none⟩)), (3, .slice ra1 l.length rc1)] w12 (by kernel_rfl) ?_
                              refine J.ok (OK.ldBox S12 2 185 4 3 (.bool mo) (by kernel_rfl) rfl (by kernel_rfl)) ?_
                              refine J.run 1 K4_61 [(185, .bool mo), (9, .pointer (some ⟨b2, 0, none⟩)), (3, .slice ra1 l.length rc1)] w12 (by kernel_rfl) ?_
                              refine J.head (.bool true) (congrArg Value.bool fk2) ?_
                              refine J.run 3 K4_62 [(186, .slice ra1 l.length rc1), (9, .pointer (some ⟨b2, 0, none⟩)), (3, .slice ra1 l.length rc1)] w12 (by kernel_rfl) ?_
                              refine J.ok (OK.index 187 28 1 ra1 p4 l.length 0 0 (p4.add 0) (by kernel_rfl) (by kernel_rfl) hp4 (by omega) (by first | omega | (simp; omega)) (by rw [Nat.mul_one])) ?_
                              refine J.ok (OK.ldCell 188 3 (p4.add 0) (.int .i64 (l.getD 0 0)) (by kernel_rfl) (by kernel_rfl) (row1_cell (g := (Value.int .i64)) S12 1 rfl hp4 0 0 (by first | omega | (simp; omega)))) ?_
                              refine J.run 1 K4_63 [(189, .pointer (some ⟨b2, 1, none⟩)), (188, .int .i64 (l.getD 0 0)), (9, .pointer (some ⟨b2, 0, none⟩)), (3, .slice ra1 l.length rc1)] w12 (by kernel_rfl) ?_
                              refine J.stBox S12 0 3 1 (.int .i64 (l.getD 0 0)) [.string nm, .int .i64 (l.getD 0 0), .int .i64 ln, .bool (!mo), .bool sg, .int .i64 num, .int .i64 off, .int .i64 den, .int .i64 low, .int .i64 high] [box b2 [.string nm, .int .i64 (l.getD 0 0), .int .i64 ln, .bool (!mo), .bool sg, .int .i64 num, .int .i64 off, .int .i64 den, .int .i64 low, .int .i64 high] 23, rowOf encI ra1 rc1 3 1 l, box b1 [.string nm, .int .i64 st, .int .i64 ln, .bool mo, .bool sg, .int .i64 num, .int .i64 off, .int .i64 den, .int .i64 low, .int .i64 high] 23] (by kernel_rfl) rfl (by kernel_rfl) (by kernel_rfl) rfl ?_
                              intro w13 S13
                              refine J.run 3 K4_64 [(9, .pointer (some ⟨b2, 0, none⟩)), (3, .slice ra1 l.length rc1)] w13 (by kernel_rfl) ?_
                              refine J.ok (OK.ldBox S13 0 190 23 0 (.agg #[.string nm, .int .i64 (l.getD 0 0), .int .i64 ln, .bool (!mo), .bool sg, .int .i64 num, .int .i64 off, .int .i64 den, .int .i64 low, .int .i64 high]) (by kernel_rfl) rfl (by kernel_rfl)) ?_
                              refine J.callF 191 11 #[.agg #[.string nm, .int .i64 (l.getD 0 0), .int .i64 ln, .bool (!mo), .bool sg, .int .i64 num, .int .i64 off, .int .i64 den, .int .i64 low, .int .i64 high]] hb11 (by kernel_rfl) (bits_any nm (l.getD 0 0) ln (!mo) sg num off den low high _ (by first | omega | decide)) ?_
                              rintro _ w14 ⟨ra2, rc2, rfl, T4⟩
                              have S14 : Sep w [rowOf encI ra2 rc2 3 1 (bitsF nm (l.getD 0 0) ln (!mo) sg num off den low high), box b2 [.string nm, .int .i64 (l.getD 0 0), .int .i64 ln, .bool (!mo), .bool sg, .int .i64 num, .int .i64 off, .int .i64 den, .int .i64 low, .int .i64 high] 23, rowOf encI ra1 rc1 3 1 l, box b1 [.string nm, .int .i64 st, .int .i64 ln, .bool mo, .bool sg, .int .i64 num, .int .i64 off, .int .i64 den, .int .i64 low, .int .i64 high] 23] w14 := S13.trans T4
                              clear T4 S13
                              refine J.run 1 K4_65 [(192, .slice ra1 l.length rc1), (191, .slice ra2 ((bitsF nm (l.getD 0 0) ln (!mo) sg num off den low high).length) rc2)] w14 (by kernel_rfl) ?_
                              have := rowOf_len (S14.nth 0 rfl)
                              have := rowOf_len (S14.nth 2 rfl)
                              refine J.callF 193 10 #[.slice ra2 ((bitsF nm (l.getD 0 0) ln (!mo) sg num off den low high).length) rc2, .slice ra1 l.length rc1] hb10 (by kernel_rfl) (equal_any ra2 ((bitsF nm (l.getD 0 0) ln (!mo) sg num off den low high).length) rc2 (bitsF nm (l.getD 0 0) ln (!mo) sg num off den low high) ra1 l.length rc1 l _ ((row1_ones (S14.nth 0 rfl) ((bitsF nm (l.getD 0 0) ln (!mo) sg num off den low high).length) (by first | rfl | omega | simp))) ((row1_ones (S14.nth 2 rfl) l.length (by first | rfl | omega | simp))) (by first | omega | (simp; omega))) ?_
                              rintro _ w15 ⟨rfl, T5⟩
                              have S15 : Sep w [rowOf encI ra2 rc2 3 1 (bitsF nm (l.getD 0 0) ln (!mo) sg num off den low high), box b2 [.string nm, .int .i64 (l.getD 0 0), .int .i64 ln, .bool (!mo), .bool sg, .int .i64 num, .int .i64 off, .int .i64 den, .int .i64 low, .int .i64 high] 23, rowOf encI ra1 rc1 3 1 l, box b1 [.string nm, .int .i64 st, .int .i64 ln, .bool mo, .bool sg, .int .i64 num, .int .i64 off, .int .i64 den, .int .i64 low, .int .i64 high] 23] w15 := S14.trans T5
                              clear T5 S14
                              refine J.run 2 K4_66 [(2, .bool ((bitsF nm (l.getD 0 0) ln (!mo) sg num off den low high) == l))] w15 (by kernel_rfl) ?_
                              refine J.ret Try.f4 [.bool ((bitsF nm (l.getD 0 0) ln (!mo) sg num off den low high) == l)] Try.func4 ⟨by kernel_rfl, trivial⟩ ?_
                              refine hR _ _ ?_
                              have fk27 : ((bitsF nm (l.getD 0 0) ln (!mo) sg num off den low high) == l) = true := by rw [other_same fk3 hl (by rw [show (ln - 1).toNat = ((l.length : Int) - 1).toNat by omega]; omega) (by simp [fk2]) (by simp only [fk2, if_true, if_false, Bool.false_eq_true]; try rw [show (ln - 1).toNat = ((l.length : Int) - 1).toNat by omega]) (by omega)]; simp
                              exact ⟨congrArg Value.bool fk27, S15.nil⟩
                            · skip
                              refine J.head (.bool false) (congrArg Value.bool (decide_eq_false fk25)) ?_
                              refine J.run 6 K4_67 [(2, .bool true)] w10 (by kernel_rfl) ?_
                              refine J.ret Try.f4 [.bool true] Try.func4 ⟨by kernel_rfl, trivial⟩ ?_
                              refine hR _ _ ?_
                              exact ⟨rfl, S10.nil⟩
                          · skip
                            obtain ⟨p5, hp5⟩ := row1_addr (S9.nth 1 rfl) (show 0 < (l).length by first | omega | (simp; omega))
                            refine J.drawStill S9 27 Try.mixed (by kernel_rfl) (by kernel_rfl) (by kernel_rfl) ?_
                            intro w16 S16
                            refine SL.ok (by decide) (OK.run 146 (.slice ra1 l.length rc1) (by kernel_rfl)) ?_
                            refine SL.ok (by decide) (OK.index 147 28 1 ra1 p5 l.length 0 0 (p5.add 0) (by kernel_rfl) (by kernel_rfl) hp5 (by omega) (by first | omega | (simp; omega)) (by rw [Nat.mul_one])) ?_
                            refine SL.ok (by decide) (OK.ldCell 148 3 (p5.add 0) (.int .i64 (l.getD 0 0)) (by kernel_rfl) (by kernel_rfl) (row1_cell (g := (Value.int .i64)) S16 1 rfl hp5 0 0 (by first | omega | (simp; omega)))) ?_
                            refine SL.ok (by decide) (OK.run 149 (.int .i64 (IntKind.wrap .i64 (Int.tdiv (l.getD 0 0) 8))) (by kernel_rfl)) ?_
                            refine SL.head (.int .i64 ((l.getD 0 0) / 8)) (congrArg (Value.int .i64) (IntWalk.i64_quo _ _ (by omega))) ?_
                            refine SL.ok (by decide) (OK.run 150 (.slice ra1 l.length rc1) (by kernel_rfl)) ?_
                            refine SL.ok (by decide) (OK.run 151 (.slice ra1 l.length rc1) (by kernel_rfl)) ?_
                            refine SL.ok (by decide) (OK.run 152 (.int .i64 (l.length : Int)) (by kernel_rfl)) ?_
                            refine SL.ok (by decide) (OK.run 153 (.int .i64 (IntKind.wrap .i64 ((l.length : Int) - 1))) (by kernel_rfl)) ?_
                            refine SL.head (.int .i64 ((l.length : Int) - 1)) (congrArg (Value.int .i64) (IntWalk.i64_in _ (by omega))) ?_
                            refine SL.ok (by decide) (OK.index 154 28 1 ra1 p3 l.length ((l.length : Int) - 1).toNat ((l.length : Int) - 1) (p3.add ((l.length : Int) - 1).toNat) (by kernel_rfl) (by kernel_rfl) hp3 (by omega) (by first | omega | (simp; omega)) (by rw [Nat.mul_one])) ?_
                            refine SL.ok (by decide) (OK.ldCell 155 3 (p3.add ((l.length : Int) - 1).toNat) (.int .i64 (l.getD ((l.length : Int) - 1).toNat 0)) (by kernel_rfl) (by kernel_rfl) (row1_cell (g := (Value.int .i64)) S16 1 rfl hp3 0 ((l.length : Int) - 1).toNat (by first | omega | (simp; omega)))) ?_
                            refine SL.ok (by decide) (OK.run 156 (.int .i64 (IntKind.wrap .i64 (Int.tdiv (l.getD ((l.length : Int) - 1).toNat 0) 8))) (by kernel_rfl)) ?_
                            refine SL.head (.int .i64 ((l.getD ((l.length : Int) - 1).toNat 0) / 8)) (congrArg (Value.int .i64) (IntWalk.i64_quo _ _ (by omega))) ?_
                            refine SL.ok (by decide) (OK.run 157 (.bool (((l.getD 0 0) / 8) == ((l.getD ((l.length : Int) - 1).toNat 0) / 8))) (by kernel_rfl)) ?_
                            refine SL.head (.bool true) (congrArg Value.bool (beq_iff_eq.2 fk23)) ?_
                            refine SL.ok (by decide) (OK.run 158 (.bool true) (by kernel_rfl)) ?_
                            refine SL.ok (by decide) (OK.run 159 (.slice ra1 l.length rc1) (by kernel_rfl)) ?_
                            refine SL.ok (by decide) (OK.index 160 28 1 ra1 p5 l.length 0 0 (p5.add 0) (by kernel_rfl) (by kernel_rfl) hp5 (by omega) (by first | omega | (simp; omega)) (by rw [Nat.mul_one])) ?_
                            refine SL.ok (by decide) (OK.ldCell 161 3 (p5.add 0) (.int .i64 (l.getD 0 0)) (by kernel_rfl) (by kernel_rfl) (row1_cell (g := (Value.int .i64)) S16 1 rfl hp5 0 0 (by first | omega | (simp; omega)))) ?_
                            refine SL.ok (by decide) (OK.run 162 (.bool (decide ((l.getD 0 0) ≥ 0))) (by kernel_rfl)) ?_
                            refine SL.head (.bool false) (congrArg Value.bool (decide_eq_false fk24)) ?_
                            refine SL.ok (by decide) (OK.run 163 (.bool false) (by kernel_rfl)) ?_
                            refine SL.ok (by decide) (OK.run 164 (.bool false) (by kernel_rfl)) ?_
                            refine SL.pass (d := some 165) (by decide) (by kernel_rfl) ?_
                            refine SL.pass (d := some 166) (by decide) (by kernel_rfl) ?_
                            refine SL.pass (d := some 167) (by decide) (by kernel_rfl) ?_
                            refine SL.pass (d := some 168) (by decide) (by kernel_rfl) ?_
                            refine SL.pass (d := some 169) (by decide) (by kernel_rfl) ?_
                            refine SL.pass (d := some 170) (by decide) (by kernel_rfl) ?_
                            refine SL.pass (d := some 171) (by decide) (by kernel_rfl) ?_
                            refine SL.ok (by decide) (OK.run 172 (.bool false) (by kernel_rfl)) ?_
                            refine SL.done ?_
                            refine TL.done (by kernel_rfl) ?_
                            refine J.run 0 (rRest K4_55) [(172, .bool false), (9, .pointer (some ⟨b2, 0, none⟩)), (3, .slice ra1 l.length rc1), (1, .pointer (some ⟨b1, 0, none⟩))] w16 (by kernel_rfl) ?_
                            refine J.run 6 K4_68 [(2, .bool true)] w16 (by kernel_rfl) ?_
                            refine J.ret Try.f4 [.bool true] Try.func4 ⟨by kernel_rfl, trivial⟩ ?_
                            refine hR _ _ ?_
                            exact ⟨rfl, S16.nil⟩
                        · skip
                          obtain ⟨p6, hp6⟩ := row1_addr (S9.nth 1 rfl) (show 0 < (l).length by first | omega | (simp; omega))
                          refine J.drawStill S9 27 Try.mixed (by kernel_rfl) (by kernel_rfl) (by kernel_rfl) ?_
                          intro w17 S17
                          refine SL.ok (by decide) (OK.run 146 (.slice ra1 l.length rc1) (by kernel_rfl)) ?_
                          refine SL.ok (by decide) (OK.index 147 28 1 ra1 p6 l.length 0 0 (p6.add 0) (by kernel_rfl) (by kernel_rfl) hp6 (by omega) (by first | omega | (simp; omega)) (by rw [Nat.mul_one])) ?_
                          refine SL.ok (by decide) (OK.ldCell 148 3 (p6.add 0) (.int .i64 (l.getD 0 0)) (by kernel_rfl) (by kernel_rfl) (row1_cell (g := (Value.int .i64)) S17 1 rfl hp6 0 0 (by first | omega | (simp; omega)))) ?_
                          refine SL.ok (by decide) (OK.run 149 (.int .i64 (IntKind.wrap .i64 (Int.tdiv (l.getD 0 0) 8))) (by kernel_rfl)) ?_
                          refine SL.head (.int .i64 ((l.getD 0 0) / 8)) (congrArg (Value.int .i64) (IntWalk.i64_quo _ _ (by omega))) ?_
                          refine SL.ok (by decide) (OK.run 150 (.slice ra1 l.length rc1) (by kernel_rfl)) ?_
                          refine SL.ok (by decide) (OK.run 151 (.slice ra1 l.length rc1) (by kernel_rfl)) ?_
                          refine SL.ok (by decide) (OK.run 152 (.int .i64 (l.length : Int)) (by kernel_rfl)) ?_
                          refine SL.ok (by decide) (OK.run 153 (.int .i64 (IntKind.wrap .i64 ((l.length : Int) - 1))) (by kernel_rfl)) ?_
                          refine SL.head (.int .i64 ((l.length : Int) - 1)) (congrArg (Value.int .i64) (IntWalk.i64_in _ (by omega))) ?_
                          refine SL.ok (by decide) (OK.index 154 28 1 ra1 p3 l.length ((l.length : Int) - 1).toNat ((l.length : Int) - 1) (p3.add ((l.length : Int) - 1).toNat) (by kernel_rfl) (by kernel_rfl) hp3 (by omega) (by first | omega | (simp; omega)) (by rw [Nat.mul_one])) ?_
                          refine SL.ok (by decide) (OK.ldCell 155 3 (p3.add ((l.length : Int) - 1).toNat) (.int .i64 (l.getD ((l.length : Int) - 1).toNat 0)) (by kernel_rfl) (by kernel_rfl) (row1_cell (g := (Value.int .i64)) S17 1 rfl hp3 0 ((l.length : Int) - 1).toNat (by first | omega | (simp; omega)))) ?_
                          refine SL.ok (by decide) (OK.run 156 (.int .i64 (IntKind.wrap .i64 (Int.tdiv (l.getD ((l.length : Int) - 1).toNat 0) 8))) (by kernel_rfl)) ?_
                          refine SL.head (.int .i64 ((l.getD ((l.length : Int) - 1).toNat 0) / 8)) (congrArg (Value.int .i64) (IntWalk.i64_quo _ _ (by omega))) ?_
                          refine SL.ok (by decide) (OK.run 157 (.bool (((l.getD 0 0) / 8) == ((l.getD ((l.length : Int) - 1).toNat 0) / 8))) (by kernel_rfl)) ?_
                          refine SL.head (.bool false) (congrArg Value.bool (beq_eq_false_iff_ne.2 fk23)) ?_
                          refine SL.ok (by decide) (OK.run 158 (.bool false) (by kernel_rfl)) ?_
                          refine SL.pass (d := some 159) (by decide) (by kernel_rfl) ?_
                          refine SL.pass (d := some 160) (by decide) (by kernel_rfl) ?_
                          refine SL.pass (d := some 161) (by decide) (by kernel_rfl) ?_
                          refine SL.pass (d := some 162) (by decide) (by kernel_rfl) ?_
                          refine SL.ok (by decide) (OK.run 163 (.bool false) (by kernel_rfl)) ?_
                          refine SL.ok (by decide) (OK.run 164 (.bool false) (by kernel_rfl)) ?_
                          refine SL.pass (d := some 165) (by decide) (by kernel_rfl) ?_
                          refine SL.pass (d := some 166) (by decide) (by kernel_rfl) ?_
                          refine SL.pass (d := some 167) (by decide) (by kernel_rfl) ?_
                          refine SL.pass (d := some 168) (by decide) (by kernel_rfl) ?_
                          refine SL.pass (d := some 169) (by decide) (by kernel_rfl) ?_
                          refine SL.pass (d := some 170) (by decide) (by kernel_rfl) ?_
                          refine SL.pass (d := some 171) (by decide) (by kernel_rfl) ?_
                          refine SL.ok (by decide) (OK.run 172 (.bool false) (by kernel_rfl)) ?_
                          refine SL.done ?_
                          refine TL.done (by kernel_rfl) ?_
                          refine J.run 0 (rRest K4_55) [(172, .bool false), (9, .pointer (some ⟨b2, 0, none⟩)), (3, .slice ra1 l.length rc1), (1, .pointer (some ⟨b1, 0, none⟩))] w17 (by kernel_rfl) ?_
                          refine J.run 6 K4_69 [(2, .bool true)] w17 (by kernel_rfl) ?_
                          refine J.ret Try.f4 [.bool true] Try.func4 ⟨by kernel_rfl, trivial⟩ ?_
                          refine hR _ _ ?_
                          exact ⟨rfl, S17.nil⟩
                      · skip
                        refine J.head (.bool true) (congrArg Value.bool (bne_iff_ne.2 fk22)) ?_
                        refine J.run 5 K4_70 [(2, .bool false)] w7 (by kernel_rfl) ?_
                        refine J.ret Try.f4 [.bool false] Try.func4 ⟨by kernel_rfl, trivial⟩ ?_
                        refine hR _ _ ?_
                        exfalso
                        omega
                  exact L4_1 _ 0 w4 (by omega) (by omega) S4 rfl
            · skip
              refine J.head (.bool true) (congrArg Value.bool (bne_iff_ne.2 fk10)) ?_
              refine J.run 26 K4_71 [(2, .bool false)] w4 (by kernel_rfl) ?_
              refine J.ret Try.f4 [.bool false] Try.func4 ⟨by kernel_rfl, trivial⟩ ?_
              refine hR _ _ ?_
              exfalso
              omega
          · skip
            refine J.head (.bool false) (congrArg Value.bool fk9) ?_
            have fb4 := hsg2 fk9
            refine J.run 8 K4_72 [(58, .pointer (some ⟨b1, 4, none⟩)), (57, .bool false), (5, .int .i64 (highF ln sg)), (4, .int .i64 (lowF ln sg)), (3, .slice ra1 l.length rc1), (1, .pointer (some ⟨b1, 0, none⟩))] w4 (by kernel_rfl) ?_
            refine J.ok (OK.ldBox S4 1 59 4 4 (.bool sg) (by kernel_rfl) rfl (by kernel_rfl)) ?_
            refine J.run 2 K4_73 [(61, .bool (!sg)), (57, .bool false), (5, .int .i64 (highF ln sg)), (4, .int .i64 (lowF ln sg)), (3, .slice ra1 l.length rc1), (1, .pointer (some ⟨b1, 0, none⟩))] w4 (by kernel_rfl) ?_
            refine J.head (.bool true) (congrArg Value.bool (by rw [fk9]; rfl)) ?_
            refine J.run 5 K4_74 [(66, .bool ((lowF ln sg) != 0)), (5, .int .i64 (highF ln sg)), (4, .int .i64 (lowF ln sg)), (3, .slice ra1 l.length rc1), (1, .pointer (some ⟨b1, 0, none⟩))] w4 (by kernel_rfl) ?_
            by_cases fk29 : (lowF ln sg) = 0
            · skip
              refine J.head (.bool false) (congrArg Value.bool (bne_eq_false_iff_eq.2 fk29)) ?_
              refine J.run 1 K4_75 [(67, .pointer (some ⟨b1, 8, none⟩)), (66, .bool false), (5, .int .i64 (highF ln sg)), (4, .int .i64 (lowF ln sg)), (3, .slice ra1 l.length rc1), (1, .pointer (some ⟨b1, 0, none⟩))] w4 (by kernel_rfl) ?_
              refine J.ok (OK.ldBox S4 1 68 3 8 (.int .i64 low) (by kernel_rfl) rfl (by kernel_rfl)) ?_
              refine J.run 4 K4_76 [(72, .bool (decide (low < (lowF ln sg)))), (5, .int .i64 (highF ln sg)), (3, .slice ra1 l.length rc1), (1, .pointer (some ⟨b1, 0, none⟩))] w4 (by kernel_rfl) ?_
              by_cases fk30 : low < (lowF ln sg)
              · skip
                refine J.head (.bool true) (congrArg Value.bool (decide_eq_true fk30)) ?_
                refine J.run 11 K4_77 [(2, .bool false)] w4 (by kernel_rfl) ?_
                refine J.ret Try.f4 [.bool false] Try.func4 ⟨by kernel_rfl, trivial⟩ ?_
                refine hR _ _ ?_
                exfalso
                omega
              · skip
                refine J.head (.bool false) (congrArg Value.bool (decide_eq_false fk30)) ?_
                refine J.run 1 K4_78 [(73, .pointer (some ⟨b1, 9, none⟩)), (72, .bool false), (5, .int .i64 (highF ln sg)), (3, .slice ra1 l.length rc1), (1, .pointer (some ⟨b1, 0, none⟩))] w4 (by kernel_rfl) ?_
                refine J.ok (OK.ldBox S4 1 74 3 9 (.int .i64 high) (by kernel_rfl) rfl (by kernel_rfl)) ?_
                refine J.run 4 K4_79 [(77, .bool (decide (high > (highF ln sg)))), (3, .slice ra1 l.length rc1), (1, .pointer (some ⟨b1, 0, none⟩))] w4 (by kernel_rfl) ?_
                by_cases fk31 : high > (highF ln sg)
                · skip
                  refine J.head (.bool true) (congrArg Value.bool (decide_eq_true fk31)) ?_
                  refine J.run 5 K4_80 [(2, .bool false)] w4 (by kernel_rfl) ?_
                  refine J.ret Try.f4 [.bool false] Try.func4 ⟨by kernel_rfl, trivial⟩ ?_
                  refine hR _ _ ?_
                  exfalso
                  omega
                · skip
                  refine J.head (.bool false) (congrArg Value.bool (decide_eq_false fk31)) ?_
                  refine J.run 8 K4_81 [(80, .int .i64 (IntKind.wrap .i64 ((l.length : Int) - 1))), (3, .slice ra1 l.length rc1), (1, .pointer (some ⟨b1, 0, none⟩))] w4 (by kernel_rfl) ?_
                  refine J.head (.int .i64 ((l.length : Int) - 1)) (congrArg (Value.int .i64) (IntWalk.i64_in _ (by omega))) ?_
                  refine J.run 4 K4_82 [(81, .int .i64 0), (80, .int .i64 ((l.length : Int) - 1)), (3, .slice ra1 l.length rc1), (1, .pointer (some ⟨b1, 0, none⟩))] w4 (by kernel_rfl) ?_
                  have L4_2 : ∀ (mm_ : Nat) (i : Int) (w18 : World), (0 ≤ i) → (i ≤ ln) → Sep w [rowOf encI ra1 rc1 3 1 l, box b1 [.string nm, .int .i64 st, .int .i64 ln, .bool mo, .bool sg, .int .i64 num, .int .i64 off, .int .i64 den, .int .i64 low, .int .i64 high] 23] w18 → (ln - i).toNat = mm_ → J Try.prog 4 194 R K4_82 [(81, .int .i64 i), (80, .int .i64 ((l.length : Int) - 1)), (3, .slice ra1 l.length rc1), (1, .pointer (some ⟨b1, 0, none⟩))] w18 := by
                    intro mm2
                    induction mm2 using Nat.strongRecOn with
                    | _ mm2 ih2 =>
                    intro i w18 h0 h1 S18 hm2
                    skip
                    refine J.run 5 K4_83 [(82, .bool (decide (i < ((l.length : Int) - 1)))), (81, .int .i64 i), (80, .int .i64 ((l.length : Int) - 1)), (3, .slice ra1 l.length rc1), (1, .pointer (some ⟨b1, 0, none⟩))] w18 (by kernel_rfl) ?_
                    by_cases fk32 : i < ((l.length : Int) - 1)
                    · skip
                      refine J.head (.bool true) (congrArg Value.bool (decide_eq_true fk32)) ?_
                      have hr1 := hrel i h0 (by omega)
                      refine J.run 10 K4_84 [(6, .int .i64 i), (81, .int .i64 i), (80, .int .i64 ((l.length : Int) - 1)), (3, .slice ra1 l.length rc1), (1, .pointer (some ⟨b1, 0, none⟩))] w18 (by kernel_rfl) ?_
                      obtain ⟨p7, hp7⟩ := row1_addr (S18.nth 0 rfl) (show 0 < (l).length by first | omega | (simp; omega))
                      obtain ⟨p8, hp8⟩ := row1_addr (S18.nth 0 rfl) (show 0 < (l).length by first | omega | (simp; omega))
                      refine J.drawStill S18 11 Try.mixed (by kernel_rfl) (by kernel_rfl) (by kernel_rfl) ?_
                      intro w19 S19
                      refine SL.ok (by decide) (OK.run 84 (.slice ra1 l.length rc1) (by kernel_rfl)) ?_
                      refine SL.ok (by decide) (OK.run 85 (.int .i64 i) (by kernel_rfl)) ?_
                      refine SL.ok (by decide) (OK.index 86 28 1 ra1 p7 l.length (i).toNat i (p7.add (i).toNat) (by kernel_rfl) (by kernel_rfl) hp7 (by omega) (by first | omega | (simp; omega)) (by rw [Nat.mul_one])) ?_
                      refine SL.ok (by decide) (OK.ldCell 87 3 (p7.add (i).toNat) (.int .i64 (l.getD (i).toNat 0)) (by kernel_rfl) (by kernel_rfl) (row1_cell (g := (Value.int .i64)) S19 0 rfl hp7 0 (i).toNat (by first | omega | (simp; omega)))) ?_
                      refine SL.ok (by decide) (OK.run 88 (.slice ra1 l.length rc1) (by kernel_rfl)) ?_
                      refine SL.ok (by decide) (OK.run 89 (.int .i64 i) (by kernel_rfl)) ?_
                      refine SL.ok (by decide) (OK.run 90 (.int .i64 (IntKind.wrap .i64 (i + 1))) (by kernel_rfl)) ?_
                      refine SL.head (.int .i64 (i + 1)) (congrArg (Value.int .i64) (IntWalk.i64_in _ (by omega))) ?_
                      refine SL.ok (by decide) (OK.index 91 28 1 ra1 p8 l.length (i + 1).toNat (i + 1) (p8.add (i + 1).toNat) (by kernel_rfl) (by kernel_rfl) hp8 (by omega) (by first | omega | (simp; omega)) (by rw [Nat.mul_one])) ?_
                      refine SL.ok (by decide) (OK.ldCell 92 3 (p8.add (i + 1).toNat) (.int .i64 (l.getD (i + 1).toNat 0)) (by kernel_rfl) (by kernel_rfl) (row1_cell (g := (Value.int .i64)) S19 0 rfl hp8 0 (i + 1).toNat (by first | omega | (simp; omega)))) ?_
                      refine SL.ok (by decide) (OK.run 7 (.int .i64 (l.getD (i).toNat 0)) (by kernel_rfl)) ?_
                      refine SL.ok (by decide) (OK.run 8 (.int .i64 (l.getD (i + 1).toNat 0)) (by kernel_rfl)) ?_
                      refine SL.done ?_
                      refine TL.done (by kernel_rfl) ?_
                      refine J.run 0 (rRest K4_84) [(8, .int .i64 (l.getD (i + 1).toNat 0)), (7, .int .i64 (l.getD (i).toNat 0)), (81, .int .i64 i), (80, .int .i64 ((l.length : Int) - 1)), (3, .slice ra1 l.length rc1), (1, .pointer (some ⟨b1, 0, none⟩))] w19 (by kernel_rfl) ?_
                      refine J.run 5 K4_85 [(95, .int .i64 (IntKind.wrap .i64 (Int.tdiv (l.getD (i).toNat 0) 8))), (8, .int .i64 (l.getD (i + 1).toNat 0)), (7, .int .i64 (l.getD (i).toNat 0)), (81, .int .i64 i), (80, .int .i64 ((l.length : Int) - 1)), (3, .slice ra1 l.length rc1), (1, .pointer (some ⟨b1, 0, none⟩))] w19 (by kernel_rfl) ?_
                      refine J.head (.int .i64 ((l.getD (i).toNat 0) / 8)) (congrArg (Value.int .i64) (IntWalk.i64_quo _ _ (by omega))) ?_
                      refine J.run 2 K4_86 [(97, .int .i64 (IntKind.wrap .i64 (Int.tdiv (l.getD (i + 1).toNat 0) 8))), (95, .int .i64 ((l.getD (i).toNat 0) / 8)), (8, .int .i64 (l.getD (i + 1).toNat 0)), (7, .int .i64 (l.getD (i).toNat 0)), (81, .int .i64 i), (80, .int .i64 ((l.length : Int) - 1)), (3, .slice ra1 l.length rc1), (1, .pointer (some ⟨b1, 0, none⟩))] w19 (by kernel_rfl) ?_
                      refine J.head (.int .i64 ((l.getD (i + 1).toNat 0) / 8)) (congrArg (Value.int .i64) (IntWalk.i64_quo _ _ (by omega))) ?_
                      refine J.run 3 K4_87 [(93, .bool (((l.getD (i).toNat 0) / 8) == ((l.getD (i + 1).toNat 0) / 8))), (8, .int .i64 (l.getD (i + 1).toNat 0)), (7, .int .i64 (l.getD (i).toNat 0)), (81, .int .i64 i), (80, .int .i64 ((l.length : Int) - 1)), (3, .slice ra1 l.length rc1), (1, .pointer (some ⟨b1, 0, none⟩))] w19 (by kernel_rfl) ?_
                      by_cases fk33 : ((l.getD (i).toNat 0) / 8) = ((l.getD (i + 1).toNat 0) / 8)
                      · skip
                        refine J.head (.bool true) (congrArg Value.bool (beq_iff_eq.2 fk33)) ?_
                        refine J.run 6 K4_88 [(101, .int .i64 (IntKind.wrap .i64 ((l.getD (i).toNat 0) + 1))), (99, .int .i64 (l.getD (i + 1).toNat 0)), (81, .int .i64 i), (80, .int .i64 ((l.length : Int) - 1)), (3, .slice ra1 l.length rc1), (1, .pointer (some ⟨b1, 0, none⟩))] w19 (by kernel_rfl) ?_
                        refine J.head (.int .i64 ((l.getD (i).toNat 0) + 1)) (congrArg (Value.int .i64) (IntWalk.i64_in _ (by omega))) ?_
                        refine J.run 2 K4_89 [(102, .bool ((l.getD (i + 1).toNat 0) != ((l.getD (i).toNat 0) + 1))), (81, .int .i64 i), (80, .int .i64 ((l.length : Int) - 1)), (3, .slice ra1 l.length rc1), (1, .pointer (some ⟨b1, 0, none⟩))] w19 (by kernel_rfl) ?_
                        by_cases fk34 : (l.getD (i + 1).toNat 0) = ((l.getD (i).toNat 0) + 1)
                        · skip
                          refine J.head (.bool false) (congrArg Value.bool (bne_eq_false_iff_eq.2 fk34)) ?_
                          refine J.run 6 K4_90 [(127, .int .i64 (IntKind.wrap .i64 (i + 1))), (80, .int .i64 ((l.length : Int) - 1)), (3, .slice ra1 l.length rc1), (1, .pointer (some ⟨b1, 0, none⟩))] w19 (by kernel_rfl) ?_
                          refine J.head (.int .i64 (i + 1)) (congrArg (Value.int .i64) (IntWalk.i64_in _ (by omega))) ?_
                          refine J.run 3 K4_82 [(81, .int .i64 (i + 1)), (80, .int .i64 ((l.length : Int) - 1)), (3, .slice ra1 l.length rc1), (1, .pointer (some ⟨b1, 0, none⟩))] w19 (by kernel_rfl) ?_
                          refine J.run 0 K4_82 [(81, .int .i64 (i + 1)), (80, .int .i64 ((l.length : Int) - 1)), (3, .slice ra1 l.length rc1), (1, .pointer (some ⟨b1, 0, none⟩))] w19 (by kernel_rfl) ?_
                          exact ih2 _ (show (ln - (i + 1)).toNat < mm2 from by omega) (i + 1) w19 (by omega) (by omega) S19 rfl
                        · skip
                          refine J.head (.bool true) (congrArg Value.bool (bne_iff_ne.2 fk34)) ?_
                          refine J.run 5 K4_91 [(2, .bool false)] w19 (by kernel_rfl) ?_
                          refine J.ret Try.f4 [.bool false] Try.func4 ⟨by kernel_rfl, trivial⟩ ?_
                          refine hR _ _ ?_
                          exfalso
                          omega
                      · skip
                        refine J.head (.bool false) (congrArg Value.bool (beq_eq_false_iff_ne.2 fk33)) ?_
                        refine J.run 4 K4_92 [(104, .pointer (some ⟨b1, 3, none⟩)), (8, .int .i64 (l.getD (i + 1).toNat 0)), (7, .int .i64 (l.getD (i).toNat 0)), (81, .int .i64 i), (80, .int .i64 ((l.length : Int) - 1)), (3, .slice ra1 l.length rc1), (1, .pointer (some ⟨b1, 0, none⟩))] w19 (by kernel_rfl) ?_
                        refine J.ok (OK.ldBox S19 1 105 4 3 (.bool mo) (by kernel_rfl) rfl (by kernel_rfl)) ?_
                        refine J.run 2 K4_93 [(103, .bool mo), (8, .int .i64 (l.getD (i + 1).toNat 0)), (7, .int .i64 (l.getD (i).toNat 0)), (81, .int .i64 i), (80, .int .i64 ((l.length : Int) - 1)), (3, .slice ra1 l.length rc1), (1, .pointer (some ⟨b1, 0, none⟩))] w19 (by kernel_rfl) ?_
                        refine J.head (.bool true) (congrArg Value.bool fk2) ?_
                        refine J.run 5 K4_94 [(107, .int .i64 (IntKind.wrap .i64 (Int.tdiv (l.getD (i + 1).toNat 0) 8))), (8, .int .i64 (l.getD (i + 1).toNat 0)), (7, .int .i64 (l.getD (i).toNat 0)), (81, .int .i64 i), (80, .int .i64 ((l.length : Int) - 1)), (3, .slice ra1 l.length rc1), (1, .pointer (some ⟨b1, 0, none⟩))] w19 (by kernel_rfl) ?_
                        refine J.head (.int .i64 ((l.getD (i + 1).toNat 0) / 8)) (congrArg (Value.int .i64) (IntWalk.i64_quo _ _ (by omega))) ?_
                        refine J.run 2 K4_95 [(109, .int .i64 (IntKind.wrap .i64 (Int.tdiv (l.getD (i).toNat 0) 8))), (107, .int .i64 ((l.getD (i + 1).toNat 0) / 8)), (8, .int .i64 (l.getD (i + 1).toNat 0)), (7, .int .i64 (l.getD (i).toNat 0)), (81, .int .i64 i), (80, .int .i64 ((l.length : Int) - 1)), (3, .slice ra1 l.length rc1), (1, .pointer (some ⟨b1, 0, none⟩))] w19 (by kernel_rfl) ?_
                        refine J.head (.int .i64 ((l.getD (i).toNat 0) / 8)) (congrArg (Value.int .i64) (IntWalk.i64_quo _ _ (by omega))) ?_
                        refine J.run 1 K4_96 [(110, .int .i64 (IntKind.wrap .i64 (((l.getD (i).toNat 0) / 8) - 1))), (107, .int .i64 ((l.getD (i + 1).toNat 0) / 8)), (8, .int .i64 (l.getD (i + 1).toNat 0)), (7, .int .i64 (l.getD (i).toNat 0)), (81, .int .i64 i), (80, .int .i64 ((l.length : Int) - 1)), (3, .slice ra1 l.length rc1), (1, .pointer (some ⟨b1, 0, none⟩))] w19 (by kernel_rfl) ?_
                        refine J.head (.int .i64 (((l.getD (i).toNat 0) / 8) - 1)) (congrArg (Value.int .i64) (IntWalk.i64_in _ (by omega))) ?_
                        refine J.run 2 K4_97 [(112, .bool (((l.getD (i + 1).toNat 0) / 8) != (((l.getD (i).toNat 0) / 8) - 1))), (8, .int .i64 (l.getD (i + 1).toNat 0)), (7, .int .i64 (l.getD (i).toNat 0)), (81, .int .i64 i), (80, .int .i64 ((l.length : Int) - 1)), (3, .slice ra1 l.length rc1), (1, .pointer (some ⟨b1, 0, none⟩))] w19 (by kernel_rfl) ?_
                        by_cases fk36 : ((l.getD (i + 1).toNat 0) / 8) = (((l.getD (i).toNat 0) / 8) - 1)
                        · skip
                          refine J.head (.bool false) (congrArg Value.bool (bne_eq_false_iff_eq.2 fk36)) ?_
                          refine J.run 2 K4_98 [(114, .int .i64 (Int.tmod (l.getD (i).toNat 0) 8)), (112, .bool false), (8, .int .i64 (l.getD (i + 1).toNat 0)), (81, .int .i64 i), (80, .int .i64 ((l.length : Int) - 1)), (3, .slice ra1 l.length rc1), (1, .pointer (some ⟨b1, 0, none⟩))] w19 (by kernel_rfl) ?_
                          refine J.head (.int .i64 ((l.getD (i).toNat 0) % 8)) (congrArg (Value.int .i64) (IntWalk.rem_in _ _ (by omega))) ?_
                          refine J.run 3 K4_99 [(117, .bool (((l.getD (i).toNat 0) % 8) != 7)), (8, .int .i64 (l.getD (i + 1).toNat 0)), (81, .int .i64 i), (80, .int .i64 ((l.length : Int) - 1)), (3, .slice ra1 l.length rc1), (1, .pointer (some ⟨b1, 0, none⟩))] w19 (by kernel_rfl) ?_
                          by_cases fk37 : ((l.getD (i).toNat 0) % 8) = 7
                          · skip
                            refine J.head (.bool false) (congrArg Value.bool (bne_eq_false_iff_eq.2 fk37)) ?_
                            refine J.run 2 K4_100 [(119, .int .i64 (Int.tmod (l.getD (i + 1).toNat 0) 8)), (117, .bool false), (81, .int .i64 i), (80, .int .i64 ((l.length : Int) - 1)), (3, .slice ra1 l.length rc1), (1, .pointer (some ⟨b1, 0, none⟩))] w19 (by kernel_rfl) ?_
                            refine J.head (.int .i64 ((l.getD (i + 1).toNat 0) % 8)) (congrArg (Value.int .i64) (IntWalk.rem_in _ _ (by omega))) ?_
                            refine J.run 3 K4_101 [(121, .bool (((l.getD (i + 1).toNat 0) % 8) != 0)), (81, .int .i64 i), (80, .int .i64 ((l.length : Int) - 1)), (3, .slice ra1 l.length rc1), (1, .pointer (some ⟨b1, 0, none⟩))] w19 (by kernel_rfl) ?_
                            by_cases fk38 : ((l.getD (i + 1).toNat 0) % 8) = 0
                            · skip
                              refine J.head (.bool false) (congrArg Value.bool (bne_eq_false_iff_eq.2 fk38)) ?_
                              refine J.run 6 K4_102 [(127, .int .i64 (IntKind.wrap .i64 (i + 1))), (80, .int .i64 ((l.length : Int) - 1)), (3, .slice ra1 l.length rc1), (1, .pointer (some ⟨b1, 0, none⟩))] w19 (by kernel_rfl) ?_
                              refine J.head (.int .i64 (i + 1)) (congrArg (Value.int .i64) (IntWalk.i64_in _ (by omega))) ?_
                              refine J.run 3 K4_82 [(81, .int .i64 (i + 1)), (80, .int .i64 ((l.length : Int) - 1)), (3, .slice ra1 l.length rc1), (1, .pointer (some ⟨b1, 0, none⟩))] w19 (by kernel_rfl) ?_
                              refine J.run 0 K4_82 [(81, .int .i64 (i + 1)), (80, .int .i64 ((l.length : Int) - 1)), (3, .slice ra1 l.length rc1), (1, .pointer (some ⟨b1, 0, none⟩))] w19 (by kernel_rfl) ?_
                              exact ih2 _ (show (ln - (i + 1)).toNat < mm2 from by omega) (i + 1) w19 (by omega) (by omega) S19 rfl
                            · skip
                              refine J.head (.bool true) (congrArg Value.bool (bne_iff_ne.2 fk38)) ?_
                              refine J.run 5 K4_103 [(2, .bool false)] w19 (by kernel_rfl) ?_
                              refine J.ret Try.f4 [.bool false] Try.func4 ⟨by kernel_rfl, trivial⟩ ?_
                              refine hR _ _ ?_
                              exfalso
                              omega
                          · skip
                            refine J.head (.bool true) (congrArg Value.bool (bne_iff_ne.2 fk37)) ?_
                            refine J.run 10 K4_104 [(2, .bool false)] w19 (by kernel_rfl) ?_
                            refine J.ret Try.f4 [.bool false] Try.func4 ⟨by kernel_rfl, trivial⟩ ?_
                            refine hR _ _ ?_
                            exfalso
                            omega
                        · skip
                          refine J.head (.bool true) (congrArg Value.bool (bne_iff_ne.2 fk36)) ?_
                          refine J.run 15 K4_105 [(2, .bool false)] w19 (by kernel_rfl) ?_
                          refine J.ret Try.f4 [.bool false] Try.func4 ⟨by kernel_rfl, trivial⟩ ?_
                          refine hR _ _ ?_
                          exfalso
                          omega
                    · skip
                      refine J.head (.bool false) (congrArg Value.bool (decide_eq_false fk32)) ?_
                      refine J.run 6 K4_106 [(128, .pointer (some ⟨b1, 3, none⟩)), (3, .slice ra1 l.length rc1), (1, .pointer (some ⟨b1, 0, none⟩))] w18 (by kernel_rfl) ?_
                      refine J.ok (OK.ldBox S18 1 129 4 3 (.bool mo) (by kernel_rfl) rfl (by kernel_rfl)) ?_
                      refine J.run 1 K4_107 [(129, .bool mo), (3, .slice ra1 l.length rc1), (1, .pointer (some ⟨b1, 0, none⟩))] w18 (by kernel_rfl) ?_
                      refine J.head (.bool true) (congrArg Value.bool fk2) ?_
                      refine J.run 2 K4_108 [(3, .slice ra1 l.length rc1), (1, .pointer (some ⟨b1, 0, none⟩))] w18 (by kernel_rfl) ?_
                      obtain ⟨p9, hp9⟩ := row1_addr (S18.nth 0 rfl) (show 0 < (l).length by first | omega | (simp; omega))
                      refine J.drawStill S18 9 Try.mixed (by kernel_rfl) (by kernel_rfl) (by kernel_rfl) ?_
                      intro w20 S20
                      refine SL.ok (by decide) (OK.run 130 (.slice ra1 l.length rc1) (by kernel_rfl)) ?_
                      refine SL.ok (by decide) (OK.run 131 (.slice ra1 l.length rc1) (by kernel_rfl)) ?_
                      refine SL.ok (by decide) (OK.run 132 (.int .i64 (l.length : Int)) (by kernel_rfl)) ?_
                      refine SL.ok (by decide) (OK.run 133 (.int .i64 (IntKind.wrap .i64 ((l.length : Int) - 1))) (by kernel_rfl)) ?_
                      refine SL.head (.int .i64 ((l.length : Int) - 1)) (congrArg (Value.int .i64) (IntWalk.i64_in _ (by omega))) ?_
                      refine SL.ok (by decide) (OK.index 134 28 1 ra1 p9 l.length ((l.length : Int) - 1).toNat ((l.length : Int) - 1) (p9.add ((l.length : Int) - 1).toNat) (by kernel_rfl) (by kernel_rfl) hp9 (by omega) (by first | omega | (simp; omega)) (by rw [Nat.mul_one])) ?_
                      refine SL.ok (by decide) (OK.ldCell 135 3 (p9.add ((l.length : Int) - 1).toNat) (.int .i64 (l.getD ((l.length : Int) - 1).toNat 0)) (by kernel_rfl) (by kernel_rfl) (row1_cell (g := (Value.int .i64)) S20 0 rfl hp9 0 ((l.length : Int) - 1).toNat (by first | omega | (simp; omega)))) ?_
                      refine SL.ok (by decide) (OK.run 136 (.pointer (some ⟨b1, 1, none⟩)) (by kernel_rfl)) ?_
                      refine SL.ok (by decide) (OK.ldBox S20 1 137 3 1 (.int .i64 st) (by kernel_rfl) rfl (by kernel_rfl)) ?_
                      refine SL.ok (by decide) (OK.run 138 (.bool ((l.getD ((l.length : Int) - 1).toNat 0) != st)) (by kernel_rfl)) ?_
                      refine SL.done ?_
                      refine TL.done (by kernel_rfl) ?_
                      refine J.run 0 (rRest K4_108) [(138, .bool ((l.getD ((l.length : Int) - 1).toNat 0) != st)), (3, .slice ra1 l.length rc1), (1, .pointer (some ⟨b1, 0, none⟩))] w20 (by kernel_rfl) ?_
                      by_cases fk40 : (l.getD ((l.length : Int) - 1).toNat 0) = st
                      · skip
                        refine J.head (.bool false) (congrArg Value.bool (bne_eq_false_iff_eq.2 fk40)) ?_
                        refine J.run 4 K4_109 [(3, .slice ra1 l.length rc1), (1, .pointer (some ⟨b1, 0, none⟩))] w20 (by kernel_rfl) ?_
                        refine J.ok (OK.ldBox S20 1 145 23 0 (.agg #[.string nm, .int .i64 st, .int .i64 ln, .bool mo, .bool sg, .int .i64 num, .int .i64 off, .int .i64 den, .int .i64 low, .int .i64 high]) (by kernel_rfl) rfl (by kernel_rfl)) ?_
                        refine J.new S20 9 [.string ByteArray.empty, .int .i64 0, .int .i64 0, .bool false, .bool false, .int .i64 0, .int .i64 0, .int .i64 0, .int .i64 0, .int .i64 0] 23 (by kernel_rfl) ?_
                        intro b3 w21 S21
                        refine J.stBox S21 0 23 0 (.agg #[.string nm, .int .i64 st, .int .i64 ln, .bool mo, .bool sg, .int .i64 num, .int .i64 off, .int .i64 den, .int .i64 low, .int .i64 high]) [.string nm, .int .i64 st, .int .i64 ln, .bool mo, .bool sg, .int .i64 num, .int .i64 off, .int .i64 den, .int .i64 low, .int .i64 high] [box b3 [.string nm, .int .i64 st, .int .i64 ln, .bool mo, .bool sg, .int .i64 num, .int .i64 off, .int .i64 den, .int .i64 low, .int .i64 high] 23, rowOf encI ra1 rc1 3 1 l, box b1 [.string nm, .int .i64 st, .int .i64 ln, .bool mo, .bool sg, .int .i64 num, .int .i64 off, .int .i64 den, .int .i64 low, .int .i64 high] 23] (by kernel_rfl) rfl (by kernel_rfl) (by kernel_rfl) rfl ?_
                        intro w22 S22
                        refine J.run 3 K4_110 [(9, .pointer (some ⟨b3, 0, none⟩)), (3, .slice ra1 l.length rc1), (1, .pointer (some ⟨b1, 0, none⟩))] w22 (by kernel_rfl) ?_
                        by_cases fk41 : ((l.getD 0 0) / 8) = ((l.getD ((l.length : Int) - 1).toNat 0) / 8)
                        · skip
                          by_cases fk42 : (l.getD 0 0) ≥ 0
                          · skip
                            obtain ⟨p10, hp10⟩ := row1_addr (S22.nth 1 rfl) (show 0 < (l).length by first | omega | (simp; omega))
                            refine J.drawStill S22 27 Try.mixed (by kernel_rfl) (by kernel_rfl) (by kernel_rfl) ?_
                            intro w23 S23
                            refine SL.ok (by decide) (OK.run 146 (.slice ra1 l.length rc1) (by kernel_rfl)) ?_
                            refine SL.ok (by decide) (OK.index 147 28 1 ra1 p10 l.length 0 0 (p10.add 0) (by kernel_rfl) (by kernel_rfl) hp10 (by omega) (by first | omega | (simp; omega)) (by rw [Nat.mul_one])) ?_
                            refine SL.ok (by decide) (OK.ldCell 148 3 (p10.add 0) (.int .i64 (l.getD 0 0)) (by kernel_rfl) (by kernel_rfl) (row1_cell (g := (Value.int .i64)) S23 1 rfl hp10 0 0 (by first | omega | (simp; omega)))) ?_
                            refine SL.ok (by decide) (OK.run 149 (.int .i64 (IntKind.wrap .i64 (Int.tdiv (l.getD 0 0) 8))) (by kernel_rfl)) ?_
                            refine SL.head (.int .i64 ((l.getD 0 0) / 8)) (congrArg (Value.int .i64) (IntWalk.i64_quo _ _ (by omega))) ?_
                            refine SL.ok (by decide) (OK.run 150 (.slice ra1 l.length rc1) (by kernel_rfl)) ?_
                            refine SL.ok (by decide) (OK.run 151 (.slice ra1 l.length rc1) (by kernel_rfl)) ?_
                            refine SL.ok (by decide) (OK.run 152 (.int .i64 (l.length : Int)) (by kernel_rfl)) ?_
                            refine SL.ok (by decide) (OK.run 153 (.int .i64 (IntKind.wrap .i64 ((l.length : Int) - 1))) (by kernel_rfl)) ?_
                            refine SL.head (.int .i64 ((l.length : Int) - 1)) (congrArg (Value.int .i64) (IntWalk.i64_in _ (by omega))) ?_
                            refine SL.ok (by decide) (OK.index 154 28 1 ra1 p9 l.length ((l.length : Int) - 1).toNat ((l.length : Int) - 1) (p9.add ((l.length : Int) - 1).toNat) (by kernel_rfl) (by kernel_rfl) hp9 (by omega) (by first | omega | (simp; omega)) (by rw [Nat.mul_one])) ?_
                            refine SL.ok (by decide) (OK.ldCell 155 3 (p9.add ((l.length : Int) - 1).toNat) (.int .i64 (l.getD ((l.length : Int) - 1).toNat 0)) (by kernel_rfl) (by kernel_rfl) (row1_cell (g := (Value.int .i64)) S23 1 rfl hp9 0 ((l.length : Int) - 1).toNat (by first | omega | (simp; omega)))) ?_
                            refine SL.ok (by decide) (OK.run 156 (.int .i64 (IntKind.wrap .i64 (Int.tdiv (l.getD ((l.length : Int) - 1).toNat 0) 8))) (by kernel_rfl)) ?_
                            refine SL.head (.int .i64 ((l.getD ((l.length : Int) - 1).toNat 0) / 8)) (congrArg (Value.int .i64) (IntWalk.i64_quo _ _ (by omega))) ?_
                            refine SL.ok (by decide) (OK.run 157 (.bool (((l.getD 0 0) / 8) == ((l.getD ((l.length : Int) - 1).toNat 0) / 8))) (by kernel_rfl)) ?_
                            refine SL.head (.bool true) (congrArg Value.bool (beq_iff_eq.2 fk41)) ?_
                            refine SL.ok (by decide) (OK.run 158 (.bool true) (by kernel_rfl)) ?_
                            refine SL.ok (by decide) (OK.run 159 (.slice ra1 l.length rc1) (by kernel_rfl)) ?_
                            refine SL.ok (by decide) (OK.index 160 28 1 ra1 p10 l.length 0 0 (p10.add 0) (by kernel_rfl) (by kernel_rfl) hp10 (by omega) (by first | omega | (simp; omega)) (by rw [Nat.mul_one])) ?_
                            refine SL.ok (by decide) (OK.ldCell 161 3 (p10.add 0) (.int .i64 (l.getD 0 0)) (by kernel_rfl) (by kernel_rfl) (row1_cell (g := (Value.int .i64)) S23 1 rfl hp10 0 0 (by first | omega | (simp; omega)))) ?_
                            refine SL.ok (by decide) (OK.run 162 (.bool (decide ((l.getD 0 0) ≥ 0))) (by kernel_rfl)) ?_
                            refine SL.head (.bool true) (congrArg Value.bool (decide_eq_true fk42)) ?_
                            refine SL.ok (by decide) (OK.run 163 (.bool true) (by kernel_rfl)) ?_
                            refine SL.ok (by decide) (OK.run 164 (.bool true) (by kernel_rfl)) ?_
                            refine SL.ok (by decide) (OK.run 165 (.slice ra1 l.length rc1) (by kernel_rfl)) ?_
                            refine SL.ok (by decide) (OK.run 166 (.slice ra1 l.length rc1) (by kernel_rfl)) ?_
                            refine SL.ok (by decide) (OK.run 167 (.int .i64 (l.length : Int)) (by kernel_rfl)) ?_
                            refine SL.ok (by decide) (OK.run 168 (.int .i64 (IntKind.wrap .i64 ((l.length : Int) - 1))) (by kernel_rfl)) ?_
                            refine SL.head (.int .i64 ((l.length : Int) - 1)) (congrArg (Value.int .i64) (IntWalk.i64_in _ (by omega))) ?_
                            refine SL.ok (by decide) (OK.index 169 28 1 ra1 p9 l.length ((l.length : Int) - 1).toNat ((l.length : Int) - 1) (p9.add ((l.length : Int) - 1).toNat) (by kernel_rfl) (by kernel_rfl) hp9 (by omega) (by first | omega | (simp; omega)) (by rw [Nat.mul_one])) ?_
                            refine SL.ok (by decide) (OK.ldCell 170 3 (p9.add ((l.length : Int) - 1).toNat) (.int .i64 (l.getD ((l.length : Int) - 1).toNat 0)) (by kernel_rfl) (by kernel_rfl) (row1_cell (g := (Value.int .i64)) S23 1 rfl hp9 0 ((l.length : Int) - 1).toNat (by first | omega | (simp; omega)))) ?_
                            refine SL.ok (by decide) (OK.run 171 (.bool (decide ((l.getD ((l.length : Int) - 1).toNat 0) < 64))) (by kernel_rfl)) ?_
                            refine SL.ok (by decide) (OK.run 172 (.bool (decide ((l.getD ((l.length : Int) - 1).toNat 0) < 64))) (by kernel_rfl)) ?_
                            refine SL.done ?_
                            refine TL.done (by kernel_rfl) ?_
                            refine J.run 0 (rRest K4_110) [(172, .bool (decide ((l.getD ((l.length : Int) - 1).toNat 0) < 64))), (9, .pointer (some ⟨b3, 0, none⟩)), (3, .slice ra1 l.length rc1), (1, .pointer (some ⟨b1, 0, none⟩))] w23 (by kernel_rfl) ?_
                            by_cases fk43 : (l.getD ((l.length : Int) - 1).toNat 0) < 64
                            · skip
                              refine J.head (.bool true) (congrArg Value.bool (decide_eq_true fk43)) ?_
                              refine J.run 4 K4_111 [(173, .pointer (some ⟨b1, 3, none⟩)), (9, .pointer (some ⟨b3, 0, none⟩)), (3, .slice ra1 l.length rc1), (1, .pointer (some ⟨b1, 0, none⟩))] w23 (by kernel_rfl) ?_
                              refine J.ok (OK.ldBox S23 2 174 4 3 (.bool mo) (by kernel_rfl) rfl (by kernel_rfl)) ?_
                              refine J.run 2 K4_112 [(176, .pointer (some ⟨b3, 3, none⟩)), (175, .bool (!mo)), (9, .pointer (some ⟨b3, 0, none⟩)), (3, .slice ra1 l.length rc1), (1, .pointer (some ⟨b1, 0, none⟩))] w23 (by kernel_rfl) ?_
                              refine J.stBox S23 0 4 3 (.bool (!mo)) [.string nm, .int .i64 st, .int .i64 ln, .bool (!mo), .bool sg, .int .i64 num, .int .i64 off, .int .i64 den, .int .i64 low, .int .i64 high] [box b3 [.string nm, .int .i64 st, .int .i64 ln, .bool (!mo), .bool sg, .int .i64 num, .int .i64 off, .int .i64 den, .int .i64 low, .int .i64 high] 23, rowOf encI ra1 rc1 3 1 l, box b1 [.string nm, .int .i64 st, .int .i64 ln, .bool mo, .bool sg, .int .i64 num, .int .i64 off, .int .i64 den, .int .i64 low, .int .i64 high] 23] (by kernel_rfl) rfl (by kernel_rfl) (by kernel_rfl) rfl ?_
                              intro w24 S24
                              refine J.run 7 K4_113 [(180, .int .i64 (IntKind.wrap .i64 ((l.length : Int) - 1))), (177, .slice ra1 l.length rc1), (9, .pointer (some ⟨b3, 0, none⟩)), (3, .slice ra1 l.length rc1), (1, .pointer (some ⟨b1, 0, none⟩))] w24 (by kernel_rfl) ?_
                              refine J.head (.int .i64 ((l.length : Int) - 1)) (congrArg (Value.int .i64) (IntWalk.i64_in _ (by omega))) ?_
                              refine J.ok (OK.index 181 28 1 ra1 p9 l.length ((l.length : Int) - 1).toNat ((l.length : Int) - 1) (p9.add ((l.length : Int) - 1).toNat) (by kernel_rfl) (by kernel_rfl) hp9 (by omega) (by first | omega | (simp; omega)) (by rw [Nat.mul_one])) ?_
                              refine J.ok (OK.ldCell 182 3 (p9.add ((l.length : Int) - 1).toNat) (.int .i64 (l.getD ((l.length : Int) - 1).toNat 0)) (by kernel_rfl) (by kernel_rfl) (row1_cell (g := (Value.int .i64)) S24 1 rfl hp9 0 ((l.length : Int) - 1).toNat (by first | omega | (simp; omega)))) ?_
                              refine J.run 1 K4_114 [(183, .pointer (some ⟨b3, 1, none⟩)), (182, .int .i64 (l.getD ((l.length : Int) - 1).toNat 0)), (9, .pointer (some ⟨b3, 0, none⟩)), (3, .slice ra1 l.length rc1), (1, .pointer (some ⟨b1, 0, none⟩))] w24 (by kernel_rfl) ?_
                              refine J.stBox S24 0 3 1 (.int .i64 (l.getD ((l.length : Int) - 1).toNat 0)) [.string nm, .int .i64 (l.getD ((l.length : Int) - 1).toNat 0), .int .i64 ln, .bool (!mo), .bool sg, .int .i64 num, .int .i64 off, .int .i64 den, .int .i64 low, .int .i64 high] [box b3 [.string nm, .int .i64 (l.getD ((l.length : Int) - 1).toNat 0), .int .i64 ln, .bool (!mo), .bool sg, .int .i64 num, .int .i64 off, .int .i64 den, .int .i64 low, .int .i64 high] 23, rowOf encI ra1 rc1 3 1 l, box b1 [.string nm, .int .i64 st, .int .i64 ln, .bool mo, .bool sg, .int .i64 num, .int .i64 off, .int .i64 den, .int .i64 low, .int .i64 high] 23] (by kernel_rfl) rfl (by kernel_rfl) (by kernel_rfl) rfl ?_
                              intro w25 S25
                              refine J.run 5 K4_115 [(184, .pointer (some ⟨b1, 3, none⟩)), (9, .pointer (some ⟨b3, 0, none⟩)), (3, .slice ra1 l.length rc1)] w25 (by kernel_rfl) ?_
                              refine J.ok (OK.ldBox S25 2 185 4 3 (.bool mo) (by kernel_rfl) rfl (by kernel_rfl)) ?_
                              refine J.run 1 K4_116 [(185, .bool mo), (9, .pointer (some ⟨b3, 0, none⟩)), (3, .slice ra1 l.length rc1)] w25 (by kernel_rfl) ?_
                              refine J.head (.bool true) (congrArg Value.bool fk2) ?_
                              refine J.run 3 K4_117 [(186, .slice ra1 l.length rc1), (9, .pointer (some ⟨b3, 0, none⟩)), (3, .slice ra1 l.length rc1)] w25 (by kernel_rfl) ?_
                              refine J.ok (OK.index 187 28 1 ra1 p10 l.length 0 0 (p10.add 0) (by kernel_rfl) (by kernel_rfl) hp10 (by omega) (by first | omega | (simp; omega)) (by rw [Nat.mul_one])) ?_
                              refine J.ok (OK.ldCell 188 3 (p10.add 0) (.int .i64 (l.getD 0 0)) (by kernel_rfl) (by kernel_rfl) (row1_cell (g := (Value.int .i64)) S25 1 rfl hp10 0 0 (by first | omega | (simp; omega)))) ?_
                              refine J.run 1 K4_118 [(189, .pointer (some ⟨b3, 1, none⟩)), (188, .int .i64 (l.getD 0 0)), (9, .pointer (some ⟨b3, 0, none⟩)), (3, .slice ra1 l.length rc1)] w25 (by kernel_rfl) ?_
                              refine J.stBox S25 0 3 1 (.int .i64 (l.getD 0 0)) [.string nm, .int .i64 (l.getD 0 0), .int .i64 ln, .bool (!mo), .bool sg, .int .i64 num, .int .i64 off, .int .i64 den, .int .i64 low, .int .i64 high] [box b3 [.string nm, .int .i64 (l.getD 0 0), .int .i64 ln, .bool (!mo), .bool sg, .int .i64 num, .int .i64 off, .int .i64 den, .int .i64 low, .int .i64 high] 23, rowOf encI ra1 rc1 3 1 l, box b1 [.string nm, .int .i64 st, .int .i64 ln, .bool mo, .bool sg, .int .i64 num, .int .i64 off, .int .i64 den, .int .i64 low, .int .i64 high] 23] (by kernel_rfl) rfl (by kernel_rfl) (by kernel_rfl) rfl ?_
                              intro w26 S26
                              refine J.run 3 K4_119 [(9, .pointer (some ⟨b3, 0, none⟩)), (3, .slice ra1 l.length rc1)] w26 (by kernel_rfl) ?_
                              refine J.ok (OK.ldBox S26 0 190 23 0 (.agg #[.string nm, .int .i64 (l.getD 0 0), .int .i64 ln, .bool (!mo), .bool sg, .int .i64 num, .int .i64 off, .int .i64 den, .int .i64 low, .int .i64 high]) (by kernel_rfl) rfl (by kernel_rfl)) ?_
                              refine J.callF 191 11 #[.agg #[.string nm, .int .i64 (l.getD 0 0), .int .i64 ln, .bool (!mo), .bool sg, .int .i64 num, .int .i64 off, .int .i64 den, .int .i64 low, .int .i64 high]] hb11 (by kernel_rfl) (bits_any nm (l.getD 0 0) ln (!mo) sg num off den low high _ (by first | omega | decide)) ?_
                              rintro _ w27 ⟨ra3, rc3, rfl, T6⟩
                              have S27 : Sep w [rowOf encI ra3 rc3 3 1 (bitsF nm (l.getD 0 0) ln (!mo) sg num off den low high), box b3 [.string nm, .int .i64 (l.getD 0 0), .int .i64 ln, .bool (!mo), .bool sg, .int .i64 num, .int .i64 off, .int .i64 den, .int .i64 low, .int .i64 high] 23, rowOf encI ra1 rc1 3 1 l, box b1 [.string nm, .int .i64 st, .int .i64 ln, .bool mo, .bool sg, .int .i64 num, .int .i64 off, .int .i64 den, .int .i64 low, .int .i64 high] 23] w27 := S26.trans T6
                              clear T6 S26
                              refine J.run 1 K4_120 [(192, .slice ra1 l.length rc1), (191, .slice ra3 ((bitsF nm (l.getD 0 0) ln (!mo) sg num off den low high).length) rc3)] w27 (by kernel_rfl) ?_
                              have := rowOf_len (S27.nth 0 rfl)
                              have := rowOf_len (S27.nth 2 rfl)
                              refine J.callF 193 10 #[.slice ra3 ((bitsF nm (l.getD 0 0) ln (!mo) sg num off den low high).length) rc3, .slice ra1 l.length rc1] hb10 (by kernel_rfl) (equal_any ra3 ((bitsF nm (l.getD 0 0) ln (!mo) sg num off den low high).length) rc3 (bitsF nm (l.getD 0 0) ln (!mo) sg num off den low high) ra1 l.length rc1 l _ ((row1_ones (S27.nth 0 rfl) ((bitsF nm (l.getD 0 0) ln (!mo) sg num off den low high).length) (by first | rfl | omega | simp))) ((row1_ones (S27.nth 2 rfl) l.length (by first | rfl | omega | simp))) (by first | omega | (simp; omega))) ?_
                              rintro _ w28 ⟨rfl, T7⟩
                              have S28 : Sep w [rowOf encI ra3 rc3 3 1 (bitsF nm (l.getD 0 0) ln (!mo) sg num off den low high), box b3 [.string nm, .int .i64 (l.getD 0 0), .int .i64 ln, .bool (!mo), .bool sg, .int .i64 num, .int .i64 off, .int .i64 den, .int .i64 low, .int .i64 high] 23, rowOf encI ra1 rc1 3 1 l, box b1 [.string nm, .int .i64 st, .int .i64 ln, .bool mo, .bool sg, .int .i64 num, .int .i64 off, .int .i64 den, .int .i64 low, .int .i64 high] 23] w28 := S27.trans T7
                              clear T7 S27
                              refine J.run 2 K4_121 [(2, .bool ((bitsF nm (l.getD 0 0) ln (!mo) sg num off den low high) == l))] w28 (by kernel_rfl) ?_
                              refine J.ret Try.f4 [.bool ((bitsF nm (l.getD 0 0) ln (!mo) sg num off den low high) == l)] Try.func4 ⟨by kernel_rfl, trivial⟩ ?_
                              refine hR _ _ ?_
                              have fk45 : ((bitsF nm (l.getD 0 0) ln (!mo) sg num off den low high) == l) = true := by rw [other_same fk3 hl (by rw [show (ln - 1).toNat = ((l.length : Int) - 1).toNat by omega]; omega) (by simp [fk2]) (by simp only [fk2, if_true, if_false, Bool.false_eq_true]; try rw [show (ln - 1).toNat = ((l.length : Int) - 1).toNat by omega]) (by omega)]; simp
                              exact ⟨congrArg Value.bool fk45, S28.nil⟩
                            · skip
                              refine J.head (.bool false) (congrArg Value.bool (decide_eq_false fk43)) ?_
                              refine J.run 6 K4_122 [(2, .bool true)] w23 (by kernel_rfl) ?_
                              refine J.ret Try.f4 [.bool true] Try.func4 ⟨by kernel_rfl, trivial⟩ ?_
                              refine hR _ _ ?_
                              exact ⟨rfl, S23.nil⟩
                          · skip
                            obtain ⟨p11, hp11⟩ := row1_addr (S22.nth 1 rfl) (show 0 < (l).length by first | omega | (simp; omega))
                            refine J.drawStill S22 27 Try.mixed (by kernel_rfl) (by kernel_rfl) (by kernel_rfl) ?_
                            intro w29 S29
                            refine SL.ok (by decide) (OK.run 146 (.slice ra1 l.length rc1) (by kernel_rfl)) ?_
                            refine SL.ok (by decide) (OK.index 147 28 1 ra1 p11 l.length 0 0 (p11.add 0) (by kernel_rfl) (by kernel_rfl) hp11 (by omega) (by first | omega | (simp; omega)) (by rw [Nat.mul_one])) ?_
                            refine SL.ok (by decide) (OK.ldCell 148 3 (p11.add 0) (.int .i64 (l.getD 0 0)) (by kernel_rfl) (by kernel_rfl) (row1_cell (g := (Value.int .i64)) S29 1 rfl hp11 0 0 (by first | omega | (simp; omega)))) ?_
                            refine SL.ok (by decide) (OK.run 149 (.int .i64 (IntKind.wrap .i64 (Int.tdiv (l.getD 0 0) 8))) (by kernel_rfl)) ?_
                            refine SL.head (.int .i64 ((l.getD 0 0) / 8)) (congrArg (Value.int .i64) (IntWalk.i64_quo _ _ (by omega))) ?_
                            refine SL.ok (by decide) (OK.run 150 (.slice ra1 l.length rc1) (by kernel_rfl)) ?_
                            refine SL.ok (by decide) (OK.run 151 (.slice ra1 l.length rc1) (by kernel_rfl)) ?_
                            refine SL.ok (by decide) (OK.run 152 (.int .i64 (l.length : Int)) (by kernel_rfl)) ?_
                            refine SL.ok (by decide) (OK.run 153 (.int .i64 (IntKind.wrap .i64 ((l.length : Int) - 1))) (by kernel_rfl)) ?_
                            refine SL.head (.int .i64 ((l.length : Int) - 1)) (congrArg (Value.int .i64) (IntWalk.i64_in _ (by omega))) ?_
                            refine SL.ok (by decide) (OK.index 154 28 1 ra1 p9 l.length ((l.length : Int) - 1).toNat ((l.length : Int) - 1) (p9.add ((l.length : Int) - 1).toNat) (by kernel_rfl) (by kernel_rfl) hp9 (by omega) (by first | omega | (simp; omega)) (by rw [Nat.mul_one])) ?_
                            refine SL.ok (by decide) (OK.ldCell 155 3 (p9.add ((l.length : Int) - 1).toNat) (.int .i64 (l.getD ((l.length : Int) - 1).toNat 0)) (by kernel_rfl) (by kernel_rfl) (row1_cell (g := (Value.int .i64)) S29 1 rfl hp9 0 ((l.length : Int) - 1).toNat (by first | omega | (simp; omega)))) ?_
                            refine SL.ok (by decide) (OK.run 156 (.int .i64 (IntKind.wrap .i64 (Int.tdiv (l.getD ((l.length : Int) - 1).toNat 0) 8))) (by kernel_rfl)) ?_
                            refine SL.head (.int .i64 ((l.getD ((l.length : Int) - 1).toNat 0) / 8)) (congrArg (Value.int .i64) (IntWalk.i64_quo _ _ (by omega))) ?_
                            refine SL.ok (by decide) (OK.run 157 (.bool (((l.getD 0 0) / 8) == ((l.getD ((l.length : Int) - 1).toNat 0) / 8))) (by kernel_rfl)) ?_
                            refine SL.head (.bool true) (congrArg Value.bool (beq_iff_eq.2 fk41)) ?_
                            refine SL.ok (by decide) (OK.run 158 (.bool true) (by kernel_rfl)) ?_
                            refine SL.ok (by decide) (OK.run 159 (.slice ra1 l.length rc1) (by kernel_rfl)) ?_
                            refine SL.ok (by decide) (OK.index 160 28 1 ra1 p11 l.length 0 0 (p11.add 0) (by kernel_rfl) (by kernel_rfl) hp11 (by omega) (by first | omega | (simp; omega)) (by rw [Nat.mul_one])) ?_
                            refine SL.ok (by decide) (OK.ldCell 161 3 (p11.add 0) (.int .i64 (l.getD 0 0)) (by kernel_rfl) (by kernel_rfl) (row1_cell (g := (Value.int .i64)) S29 1 rfl hp11 0 0 (by first | omega | (simp; omega)))) ?_
                            refine SL.ok (by decide) (OK.run 162 (.bool (decide ((l.getD 0 0) ≥ 0))) (by kernel_rfl)) ?_
                            refine SL.head (.bool false) (congrArg Value.bool (decide_eq_false fk42)) ?_
                            refine SL.ok (by decide) (OK.run 163 (.bool false) (by kernel_rfl)) ?_
                            refine SL.ok (by decide) (OK.run 164 (.bool false) (by kernel_rfl)) ?_
                            refine SL.pass (d := some 165) (by decide) (by kernel_rfl) ?_
                            refine SL.pass (d := some 166) (by decide) (by kernel_rfl) ?_
                            refine SL.pass (d := some 167) (by decide) (by kernel_rfl) ?_
                            refine SL.pass (d := some 168) (by decide) (by kernel_rfl) ?_
                            refine SL.pass (d := some 169) (by decide) (by kernel_rfl) ?_
                            refine SL.pass (d := some 170) (by decide) (by kernel_rfl) ?_
                            refine SL.pass (d := some 171) (by decide) (by kernel_rfl) ?_
                            refine SL.ok (by decide) (OK.run 172 (.bool false) (by kernel_rfl)) ?_
                            refine SL.done ?_
                            refine TL.done (by kernel_rfl) ?_
                            refine J.run 0 (rRest K4_110) [(172, .bool false), (9, .pointer (some ⟨b3, 0, none⟩)), (3, .slice ra1 l.length rc1), (1, .pointer (some ⟨b1, 0, none⟩))] w29 (by kernel_rfl) ?_
                            refine J.run 6 K4_123 [(2, .bool true)] w29 (by kernel_rfl) ?_
                            refine J.ret Try.f4 [.bool true] Try.func4 ⟨by kernel_rfl, trivial⟩ ?_
                            refine hR _ _ ?_
                            exact ⟨rfl, S29.nil⟩
                        · skip
                          obtain ⟨p12, hp12⟩ := row1_addr (S22.nth 1 rfl) (show 0 < (l).length by first | omega | (simp; omega))
                          refine J.drawStill S22 27 Try.mixed (by kernel_rfl) (by kernel_rfl) (by kernel_rfl) ?_
                          intro w30 S30
                          refine SL.ok (by decide) (OK.run 146 (.slice ra1 l.length rc1) (by kernel_rfl)) ?_
                          refine SL.ok (by decide) (OK.index 147 28 1 ra1 p12 l.length 0 0 (p12.add 0) (by kernel_rfl) (by kernel_rfl) hp12 (by omega) (by first | omega | (simp; omega)) (by rw [Nat.mul_one])) ?_
                          refine SL.ok (by decide) (OK.ldCell 148 3 (p12.add 0) (.int .i64 (l.getD 0 0)) (by kernel_rfl) (by kernel_rfl) (row1_cell (g := (Value.int .i64)) S30 1 rfl hp12 0 0 (by first | omega | (simp; omega)))) ?_
                          refine SL.ok (by decide) (OK.run 149 (.int .i64 (IntKind.wrap .i64 (Int.tdiv (l.getD 0 0) 8))) (by kernel_rfl)) ?_
                          refine SL.head (.int .i64 ((l.getD 0 0) / 8)) (congrArg (Value.int .i64) (IntWalk.i64_quo _ _ (by omega))) ?_
                          refine SL.ok (by decide) (OK.run 150 (.slice ra1 l.length rc1) (by kernel_rfl)) ?_
                          refine SL.ok (by decide) (OK.run 151 (.slice ra1 l.length rc1) (by kernel_rfl)) ?_
                          refine SL.ok (by decide) (OK.run 152 (.int .i64 (l.length : Int)) (by kernel_rfl)) ?_
                          refine SL.ok (by decide) (OK.run 153 (.int .i64 (IntKind.wrap .i64 ((l.length : Int) - 1))) (by kernel_rfl)) ?_
                          refine SL.head (.int .i64 ((l.length : Int) - 1)) (congrArg (Value.int .i64) (IntWalk.i64_in _ (by omega))) ?_
                          refine SL.ok (by decide) (OK.index 154 28 1 ra1 p9 l.length ((l.length : Int) - 1).toNat ((l.length : Int) - 1) (p9.add ((l.length : Int) - 1).toNat) (by kernel_rfl) (by kernel_rfl) hp9 (by omega) (by first | omega | (simp; omega)) (by rw [Nat.mul_one])) ?_
                          refine SL.ok (by decide) (OK.ldCell 155 3 (p9.add ((l.length : Int) - 1).toNat) (.int .i64 (l.getD ((l.length : Int) - 1).toNat 0)) (by kernel_rfl) (by kernel_rfl) (row1_cell (g := (Value.int .i64)) S30 1 rfl hp9 0 ((l.length : Int) - 1).toNat (by first | omega | (simp; omega)))) ?_
                          refine SL.ok (by decide) (OK.run 156 (.int .i64 (IntKind.wrap .i64 (Int.tdiv (l.getD ((l.length : Int) - 1).toNat 0) 8))) (by kernel_rfl)) ?_
                          refine SL.head (.int .i64 ((l.getD ((l.length : Int) - 1).toNat 0) / 8)) (congrArg (Value.int .i64) (IntWalk.i64_quo _ _ (by omega))) ?_
                          refine SL.ok (by decide) (OK.run 157 (.bool (((l.getD 0 0) / 8) == ((l.getD ((l.length : Int) - 1).toNat 0) / 8))) (by kernel_rfl)) ?_
                          refine SL.head (.bool false) (congrArg Value.bool (beq_eq_false_iff_ne.2 fk41)) ?_
                          refine SL.ok (by decide) (OK.run 158 (.bool false) (by kernel_rfl)) ?_
                          refine SL.pass (d := some 159) (by decide) (by kernel_rfl) ?_
                          refine SL.pass (d := some 160) (by decide) (by kernel_rfl) ?_
                          refine SL.pass (d := some 161) (by decide) (by kernel_rfl) ?_
                          refine SL.pass (d := some 162) (by decide) (by kernel_rfl) ?_
                          refine SL.ok (by decide) (OK.run 163 (.bool false) (by kernel_rfl)) ?_
                          refine SL.ok (by decide) (OK.run 164 (.bool false) (by kernel_rfl)) ?_
                          refine SL.pass (d := some 165) (by decide) (by kernel_rfl) ?_
                          refine SL.pass (d := some 166) (by decide) (by kernel_rfl) ?_
                          refine SL.pass (d := some 167) (by decide) (by kernel_rfl) ?_
                          refine SL.pass (d := some 168) (by decide) (by kernel_rfl) ?_
                          refine SL.pass (d := some 169) (by decide) (by kernel_rfl) ?_
                          refine SL.pass (d := some 170) (by decide) (by kernel_rfl) ?_
                          refine SL.pass (d := some 171) (by decide) (by kernel_rfl) ?_
                          refine SL.ok (by decide) (OK.run 172 (.bool false) (by kernel_rfl)) ?_
                          refine SL.done ?_
                          refine TL.done (by kernel_rfl) ?_
                          refine J.run 0 (rRest K4_110) [(172, .bool false), (9, .pointer (some ⟨b3, 0, none⟩)), (3, .slice ra1 l.length rc1), (1, .pointer (some ⟨b1, 0, none⟩))] w30 (by kernel_rfl) ?_
                          refine J.run 6 K4_124 [(2, .bool true)] w30 (by kernel_rfl) ?_
                          refine J.ret Try.f4 [.bool true] Try.func4 ⟨by kernel_rfl, trivial⟩ ?_
                          refine hR _ _ ?_
                          exact ⟨rfl, S30.nil⟩
                      · skip
                        refine J.head (.bool true) (congrArg Value.bool (bne_iff_ne.2 fk40)) ?_
                        refine J.run 5 K4_125 [(2, .bool false)] w20 (by kernel_rfl) ?_
                        refine J.ret Try.f4 [.bool false] Try.func4 ⟨by kernel_rfl, trivial⟩ ?_
                        refine hR _ _ ?_
                        exfalso
                        omega
                  exact L4_2 _ 0 w4 (by omega) (by omega) S4 rfl
            · skip
              refine J.head (.bool true) (congrArg Value.bool (bne_iff_ne.2 fk29)) ?_
              refine J.run 17 K4_126 [(2, .bool false)] w4 (by kernel_rfl) ?_
              refine J.ret Try.f4 [.bool false] Try.func4 ⟨by kernel_rfl, trivial⟩ ?_
              refine hR _ _ ?_
              exfalso
              omega
        · skip
          refine J.head (.bool true) (congrArg Value.bool (bne_iff_ne.2 fk8)) ?_
          refine J.run 36 K4_127 [(2, .bool false)] w4 (by kernel_rfl) ?_
          refine J.ret Try.f4 [.bool false] Try.func4 ⟨by kernel_rfl, trivial⟩ ?_
          refine hR _ _ ?_
          exfalso
          omega
      · skip
        refine J.callF 17 11 #[.agg #[.string nm, .int .i64 st, .int .i64 ln, .bool mo, .bool sg, .int .i64 num, .int .i64 off, .int .i64 den, .int .i64 low, .int .i64 high]] hb11 (by kernel_rfl) (bits_any nm st ln mo sg num off den low high _ (by first | omega | decide)) ?_
        rintro _ w31 ⟨ra4, rc4, rfl, T8⟩
        have S31 : Sep w [rowOf encI ra4 rc4 3 1 (bitsF nm st ln mo sg num off den low high), box b1 [.string nm, .int .i64 st, .int .i64 ln, .bool mo, .bool sg, .int .i64 num, .int .i64 off, .int .i64 den, .int .i64 low, .int .i64 high] 23] w31 := S2.trans T8
        clear T8 S2
        obtain ⟨l, hl⟩ : ∃ x : List Int, x = bitsF nm st ln mo sg num off den low high := ⟨_, rfl⟩
        rw [← hl] at S31 ⊢
        have hll := bits_none fk3
        rw [← hl] at hll
        refine J.run 4 K4_128 [(3, .slice ra4 l.length rc4), (1, .pointer (some ⟨b1, 0, none⟩))] w31 (by kernel_rfl) ?_
        refine J.ok (OK.ldBox S31 1 19 23 0 (.agg #[.string nm, .int .i64 st, .int .i64 ln, .bool mo, .bool sg, .int .i64 num, .int .i64 off, .int .i64 den, .int .i64 low, .int .i64 high]) (by kernel_rfl) rfl (by kernel_rfl)) ?_
        refine J.callF 20 8 #[.agg #[.string nm, .int .i64 st, .int .i64 ln, .bool mo, .bool sg, .int .i64 num, .int .i64 off, .int .i64 den, .int .i64 low, .int .i64 high]] hb8 (by kernel_rfl) (limits_any nm st ln mo sg num off den low high _ (by omega)) ?_
        rintro _ w32 ⟨rfl, T9⟩
        have S32 : Sep w [rowOf encI ra4 rc4 3 1 l, box b1 [.string nm, .int .i64 st, .int .i64 ln, .bool mo, .bool sg, .int .i64 num, .int .i64 off, .int .i64 den, .int .i64 low, .int .i64 high] 23] w32 := S31.trans T9
        clear T9 S31
        refine J.head (.tuple #[.int .i64 0, .int .i64 0]) (by first | (simp only [limV, fk3, reduceCtorEq, ↓reduceIte]; done) | simp [limV, fk3]) ?_
        refine J.run 13 K4_129 [(25, .bool ((l.length : Int) == 0)), (5, .int .i64 0), (4, .int .i64 0), (3, .slice ra4 l.length rc4), (1, .pointer (some ⟨b1, 0, none⟩))] w32 (by kernel_rfl) ?_
        have fk47 : (l.length : Int) = 0 := by omega
        refine J.head (.bool true) (congrArg Value.bool (beq_iff_eq.2 fk47)) ?_
        refine J.run 11 K4_130 [(2, .bool true)] w32 (by kernel_rfl) ?_
        refine J.ret Try.f4 [.bool true] Try.func4 ⟨by kernel_rfl, trivial⟩ ?_
        refine hR _ _ ?_
        exact ⟨rfl, S32.nil⟩
    · skip
      rcases Bool.eq_false_or_eq_true (sigB nm st ln mo sg num off den low high) with fk48 | fk48
      · skip
        obtain ⟨hs1, hs2, hs3, hs4, hs5⟩ := sigB_facts fk48
        refine J.callF 17 11 #[.agg #[.string nm, .int .i64 st, .int .i64 ln, .bool mo, .bool sg, .int .i64 num, .int .i64 off, .int .i64 den, .int .i64 low, .int .i64 high]] hb11 (by kernel_rfl) (bits_any nm st ln mo sg num off den low high _ (by first | omega | decide)) ?_
        rintro _ w33 ⟨ra5, rc5, rfl, T10⟩
        have S33 : Sep w [rowOf encI ra5 rc5 3 1 (bitsF nm st ln mo sg num off den low high), box b1 [.string nm, .int .i64 st, .int .i64 ln, .bool mo, .bool sg, .int .i64 num, .int .i64 off, .int .i64 den, .int .i64 low, .int .i64 high] 23] w33 := S2.trans T10
        clear T10 S2
        obtain ⟨l, hl⟩ : ∃ x : List Int, x = bitsF nm st ln mo sg num off den low high := ⟨_, rfl⟩
        rw [← hl] at S33 ⊢
        have hl2 := hl
        rw [bits_i fk48 fk2] at hl2
        have hll := bits_len fk48
        rw [← hl] at hll
        obtain ⟨hsum, hsg1, hsg2⟩ := lim_sum sg hs1
        have hlb := lim_bounds sg hs1
        have hp32 := pow32 (n := ln.toNat) (by omega)
        have hrel : ∀ i : Int, 0 ≤ i → i < ln → _ := fun i h0 h1 => rel_i hs2 hs1 hl2 h0 h1
        have hend0 := hrel 0 (by omega) (by omega)
        simp only [Int.toNat_zero] at hend0
        have hend1 := hrel (ln - 1) (by omega) (by omega)
        rw [show (ln - 1).toNat = ((l.length : Int) - 1).toNat by omega] at hend1
        refine J.run 4 K4_131 [(3, .slice ra5 l.length rc5), (1, .pointer (some ⟨b1, 0, none⟩))] w33 (by kernel_rfl) ?_
        refine J.ok (OK.ldBox S33 1 19 23 0 (.agg #[.string nm, .int .i64 st, .int .i64 ln, .bool mo, .bool sg, .int .i64 num, .int .i64 off, .int .i64 den, .int .i64 low, .int .i64 high]) (by kernel_rfl) rfl (by kernel_rfl)) ?_
        refine J.callF 20 8 #[.agg #[.string nm, .int .i64 st, .int .i64 ln, .bool mo, .bool sg, .int .i64 num, .int .i64 off, .int .i64 den, .int .i64 low, .int .i64 high]] hb8 (by kernel_rfl) (limits_any nm st ln mo sg num off den low high _ (by omega)) ?_
        rintro _ w34 ⟨rfl, T11⟩
        have S34 : Sep w [rowOf encI ra5 rc5 3 1 l, box b1 [.string nm, .int .i64 st, .int .i64 ln, .bool mo, .bool sg, .int .i64 num, .int .i64 off, .int .i64 den, .int .i64 low, .int .i64 high] 23] w34 := S33.trans T11
        clear T11 S33
        refine J.head (.tuple #[.int .i64 (lowF ln sg), .int .i64 (highF ln sg)]) (by first | (simp only [limV, fk48, reduceCtorEq, ↓reduceIte]; done) | simp [limV, fk48]) ?_
        refine J.run 13 K4_132 [(25, .bool ((l.length : Int) == 0)), (5, .int .i64 (highF ln sg)), (4, .int .i64 (lowF ln sg)), (3, .slice ra5 l.length rc5), (1, .pointer (some ⟨b1, 0, none⟩))] w34 (by kernel_rfl) ?_
        have fk50 : ¬ ((l.length : Int) = 0) := by omega
        refine J.head (.bool false) (congrArg Value.bool (beq_eq_false_iff_ne.2 fk50)) ?_
        refine J.run 8 K4_133 [(34, .pointer (some ⟨b1, 2, none⟩)), (33, .int .i64 (l.length : Int)), (5, .int .i64 (highF ln sg)), (4, .int .i64 (lowF ln sg)), (3, .slice ra5 l.length rc5), (1, .pointer (some ⟨b1, 0, none⟩))] w34 (by kernel_rfl) ?_
        refine J.ok (OK.ldBox S34 1 35 3 2 (.int .i64 ln) (by kernel_rfl) rfl (by kernel_rfl)) ?_
        refine J.run 2 K4_134 [(37, .bool ((l.length : Int) != ln)), (5, .int .i64 (highF ln sg)), (4, .int .i64 (lowF ln sg)), (3, .slice ra5 l.length rc5), (1, .pointer (some ⟨b1, 0, none⟩))] w34 (by kernel_rfl) ?_
        have fk52 : (l.length : Int) = ln := by omega
        refine J.head (.bool false) (congrArg Value.bool (bne_eq_false_iff_eq.2 fk52)) ?_
        refine J.run 3 K4_135 [(40, .int .i64 (IntKind.wrap .i64 ((highF ln sg) - (lowF ln sg)))), (37, .bool false), (5, .int .i64 (highF ln sg)), (4, .int .i64 (lowF ln sg)), (3, .slice ra5 l.length rc5), (1, .pointer (some ⟨b1, 0, none⟩))] w34 (by kernel_rfl) ?_
        refine J.head (.int .i64 ((highF ln sg) - (lowF ln sg))) (congrArg (Value.int .i64) (IntWalk.i64_in _ (by omega))) ?_
        refine J.run 1 K4_136 [(41, .int .i64 (IntKind.wrap .i64 (((highF ln sg) - (lowF ln sg)) + 1))), (37, .bool false), (5, .int .i64 (highF ln sg)), (4, .int .i64 (lowF ln sg)), (3, .slice ra5 l.length rc5), (1, .pointer (some ⟨b1, 0, none⟩))] w34 (by kernel_rfl) ?_
        refine J.head (.int .i64 (((highF ln sg) - (lowF ln sg)) + 1)) (congrArg (Value.int .i64) (IntWalk.i64_in _ (by omega))) ?_
        refine J.run 2 K4_137 [(43, .int .i64 (l.length : Int)), (41, .int .i64 (((highF ln sg) - (lowF ln sg)) + 1)), (37, .bool false), (5, .int .i64 (highF ln sg)), (4, .int .i64 (lowF ln sg)), (3, .slice ra5 l.length rc5), (1, .pointer (some ⟨b1, 0, none⟩))] w34 (by kernel_rfl) ?_
        refine J.ok (OK.shl 44 .i64 1 (l.length : Int) (2 ^ ln.toNat) (by kernel_rfl) (by omega) ((by rw [show ((l.length : Int)) = ln by omega]; exact shl_one (by omega) (by omega)))) ?_
        refine J.run 3 K4_138 [(47, .bool ((((highF ln sg) - (lowF ln sg)) + 1) != (2 ^ ln.toNat))), (5, .int .i64 (highF ln sg)), (4, .int .i64 (lowF ln sg)), (3, .slice ra5 l.length rc5), (1, .pointer (some ⟨b1, 0, none⟩))] w34 (by kernel_rfl) ?_
        by_cases fk53 : (((highF ln sg) - (lowF ln sg)) + 1) = (2 ^ ln.toNat)
        · skip
          refine J.head (.bool false) (congrArg Value.bool (bne_eq_false_iff_eq.2 fk53)) ?_
          refine J.run 1 K4_139 [(48, .pointer (some ⟨b1, 4, none⟩)), (47, .bool false), (5, .int .i64 (highF ln sg)), (4, .int .i64 (lowF ln sg)), (3, .slice ra5 l.length rc5), (1, .pointer (some ⟨b1, 0, none⟩))] w34 (by kernel_rfl) ?_
          refine J.ok (OK.ldBox S34 1 49 4 4 (.bool sg) (by kernel_rfl) rfl (by kernel_rfl)) ?_
          refine J.run 1 K4_140 [(50, .bool sg), (47, .bool false), (5, .int .i64 (highF ln sg)), (4, .int .i64 (lowF ln sg)), (3, .slice ra5 l.length rc5), (1, .pointer (some ⟨b1, 0, none⟩))] w34 (by kernel_rfl) ?_
          rcases Bool.eq_false_or_eq_true sg with fk54 | fk54
          · skip
            refine J.head (.bool true) (congrArg Value.bool fk54) ?_
            have fb7 := hsg1 fk54
            refine J.run 3 K4_141 [(53, .int .i64 (IntKind.wrap .i64 ((lowF ln sg) + (highF ln sg)))), (50, .bool true), (47, .bool false), (5, .int .i64 (highF ln sg)), (4, .int .i64 (lowF ln sg)), (3, .slice ra5 l.length rc5), (1, .pointer (some ⟨b1, 0, none⟩))] w34 (by kernel_rfl) ?_
            refine J.head (.int .i64 ((lowF ln sg) + (highF ln sg))) (congrArg (Value.int .i64) (IntWalk.i64_in _ (by omega))) ?_
            refine J.run 4 K4_142 [(57, .bool (((lowF ln sg) + (highF ln sg)) != (-1))), (5, .int .i64 (highF ln sg)), (4, .int .i64 (lowF ln sg)), (3, .slice ra5 l.length rc5), (1, .pointer (some ⟨b1, 0, none⟩))] w34 (by kernel_rfl) ?_
            by_cases fk55 : ((lowF ln sg) + (highF ln sg)) = (-1)
            · skip
              refine J.head (.bool false) (congrArg Value.bool (bne_eq_false_iff_eq.2 fk55)) ?_
              refine J.run 1 K4_143 [(58, .pointer (some ⟨b1, 4, none⟩)), (57, .bool false), (5, .int .i64 (highF ln sg)), (4, .int .i64 (lowF ln sg)), (3, .slice ra5 l.length rc5), (1, .pointer (some ⟨b1, 0, none⟩))] w34 (by kernel_rfl) ?_
              refine J.ok (OK.ldBox S34 1 59 4 4 (.bool sg) (by kernel_rfl) rfl (by kernel_rfl)) ?_
              refine J.run 2 K4_144 [(61, .bool (!sg)), (57, .bool false), (5, .int .i64 (highF ln sg)), (4, .int .i64 (lowF ln sg)), (3, .slice ra5 l.length rc5), (1, .pointer (some ⟨b1, 0, none⟩))] w34 (by kernel_rfl) ?_
              refine J.head (.bool false) (congrArg Value.bool (by rw [fk54]; rfl)) ?_
              refine J.run 6 K4_145 [(67, .pointer (some ⟨b1, 8, none⟩)), (66, .bool false), (5, .int .i64 (highF ln sg)), (4, .int .i64 (lowF ln sg)), (3, .slice ra5 l.length rc5), (1, .pointer (some ⟨b1, 0, none⟩))] w34 (by kernel_rfl) ?_
              refine J.ok (OK.ldBox S34 1 68 3 8 (.int .i64 low) (by kernel_rfl) rfl (by kernel_rfl)) ?_
              refine J.run 4 K4_146 [(72, .bool (decide (low < (lowF ln sg)))), (5, .int .i64 (highF ln sg)), (3, .slice ra5 l.length rc5), (1, .pointer (some ⟨b1, 0, none⟩))] w34 (by kernel_rfl) ?_
              by_cases fk57 : low < (lowF ln sg)
              · skip
                refine J.head (.bool true) (congrArg Value.bool (decide_eq_true fk57)) ?_
                refine J.run 11 K4_147 [(2, .bool false)] w34 (by kernel_rfl) ?_
                refine J.ret Try.f4 [.bool false] Try.func4 ⟨by kernel_rfl, trivial⟩ ?_
                refine hR _ _ ?_
                exfalso
                omega
              · skip
                refine J.head (.bool false) (congrArg Value.bool (decide_eq_false fk57)) ?_
                refine J.run 1 K4_148 [(73, .pointer (some ⟨b1, 9, none⟩)), (72, .bool false), (5, .int .i64 (highF ln sg)), (3, .slice ra5 l.length rc5), (1, .pointer (some ⟨b1, 0, none⟩))] w34 (by kernel_rfl) ?_
                refine J.ok (OK.ldBox S34 1 74 3 9 (.int .i64 high) (by kernel_rfl) rfl (by kernel_rfl)) ?_
                refine J.run 4 K4_149 [(77, .bool (decide (high > (highF ln sg)))), (3, .slice ra5 l.length rc5), (1, .pointer (some ⟨b1, 0, none⟩))] w34 (by kernel_rfl) ?_
                by_cases fk58 : high > (highF ln sg)
                · skip
                  refine J.head (.bool true) (congrArg Value.bool (decide_eq_true fk58)) ?_
                  refine J.run 5 K4_150 [(2, .bool false)] w34 (by kernel_rfl) ?_
                  refine J.ret Try.f4 [.bool false] Try.func4 ⟨by kernel_rfl, trivial⟩ ?_
                  refine hR _ _ ?_
                  exfalso
                  omega
                · skip
                  refine J.head (.bool false) (congrArg Value.bool (decide_eq_false fk58)) ?_
                  refine J.run 8 K4_151 [(80, .int .i64 (IntKind.wrap .i64 ((l.length : Int) - 1))), (3, .slice ra5 l.length rc5), (1, .pointer (some ⟨b1, 0, none⟩))] w34 (by kernel_rfl) ?_
                  refine J.head (.int .i64 ((l.length : Int) - 1)) (congrArg (Value.int .i64) (IntWalk.i64_in _ (by omega))) ?_
                  refine J.run 4 K4_152 [(81, .int .i64 0), (80, .int .i64 ((l.length : Int) - 1)), (3, .slice ra5 l.length rc5), (1, .pointer (some ⟨b1, 0, none⟩))] w34 (by kernel_rfl) ?_
                  have L4_3 : ∀ (mm_ : Nat) (i : Int) (w35 : World), (0 ≤ i) → (i ≤ ln) → Sep w [rowOf encI ra5 rc5 3 1 l, box b1 [.string nm, .int .i64 st, .int .i64 ln, .bool mo, .bool sg, .int .i64 num, .int .i64 off, .int .i64 den, .int .i64 low, .int .i64 high] 23] w35 → (ln - i).toNat = mm_ → J Try.prog 4 194 R K4_152 [(81, .int .i64 i), (80, .int .i64 ((l.length : Int) - 1)), (3, .slice ra5 l.length rc5), (1, .pointer (some ⟨b1, 0, none⟩))] w35 := by
                    intro mm3
                    induction mm3 using Nat.strongRecOn with
                    | _ mm3 ih3 =>
                    intro i w35 h0 h1 S35 hm3
                    have hr2 : i + 1 < ln → _ := fun h => hrel (i + 1) (by omega) h
                    refine J.run 5 K4_153 [(82, .bool (decide (i < ((l.length : Int) - 1)))), (81, .int .i64 i), (80, .int .i64 ((l.length : Int) - 1)), (3, .slice ra5 l.length rc5), (1, .pointer (some ⟨b1, 0, none⟩))] w35 (by kernel_rfl) ?_
                    by_cases fk59 : i < ((l.length : Int) - 1)
                    · skip
                      refine J.head (.bool true) (congrArg Value.bool (decide_eq_true fk59)) ?_
                      have hr1 := hrel i h0 (by omega)
                      refine J.run 10 K4_154 [(6, .int .i64 i), (81, .int .i64 i), (80, .int .i64 ((l.length : Int) - 1)), (3, .slice ra5 l.length rc5), (1, .pointer (some ⟨b1, 0, none⟩))] w35 (by kernel_rfl) ?_
                      obtain ⟨p13, hp13⟩ := row1_addr (S35.nth 0 rfl) (show 0 < (l).length by first | omega | (simp; omega))
                      obtain ⟨p14, hp14⟩ := row1_addr (S35.nth 0 rfl) (show 0 < (l).length by first | omega | (simp; omega))
                      refine J.drawStill S35 11 Try.mixed (by kernel_rfl) (by kernel_rfl) (by kernel_rfl) ?_
                      intro w36 S36
                      refine SL.ok (by decide) (OK.run 84 (.slice ra5 l.length rc5) (by kernel_rfl)) ?_
                      refine SL.ok (by decide) (OK.run 85 (.int .i64 i) (by kernel_rfl)) ?_
                      refine SL.ok (by decide) (OK.index 86 28 1 ra5 p13 l.length (i).toNat i (p13.add (i).toNat) (by kernel_rfl) (by kernel_rfl) hp13 (by omega) (by first | omega | (simp; omega)) (by rw [Nat.mul_one])) ?_
                      refine SL.ok (by decide) (OK.ldCell 87 3 (p13.add (i).toNat) (.int .i64 (l.getD (i).toNat 0)) (by kernel_rfl) (by kernel_rfl) (row1_cell (g := (Value.int .i64)) S36 0 rfl hp13 0 (i).toNat (by first | omega | (simp; omega)))) ?_
                      refine SL.ok (by decide) (OK.run 88 (.slice ra5 l.length rc5) (by kernel_rfl)) ?_
                      refine SL.ok (by decide) (OK.run 89 (.int .i64 i) (by kernel_rfl)) ?_
                      refine SL.ok (by decide) (OK.run 90 (.int .i64 (IntKind.wrap .i64 (i + 1))) (by kernel_rfl)) ?_
                      refine SL.head (.int .i64 (i + 1)) (congrArg (Value.int .i64) (IntWalk.i64_in _ (by omega))) ?_
                      refine SL.ok (by decide) (OK.index 91 28 1 ra5 p14 l.length (i + 1).toNat (i + 1) (p14.add (i + 1).toNat) (by kernel_rfl) (by kernel_rfl) hp14 (by omega) (by first | omega | (simp; omega)) (by rw [Nat.mul_one])) ?_
                      refine SL.ok (by decide) (OK.ldCell 92 3 (p14.add (i + 1).toNat) (.int .i64 (l.getD (i + 1).toNat 0)) (by kernel_rfl) (by kernel_rfl) (row1_cell (g := (Value.int .i64)) S36 0 rfl hp14 0 (i + 1).toNat (by first | omega | (simp; omega)))) ?_
                      refine SL.ok (by decide) (OK.run 7 (.int .i64 (l.getD (i).toNat 0)) (by kernel_rfl)) ?_
                      refine SL.ok (by decide) (OK.run 8 (.int .i64 (l.getD (i + 1).toNat 0)) (by kernel_rfl)) ?_
                      refine SL.done ?_
                      refine TL.done (by kernel_rfl) ?_
                      refine J.run 0 (rRest K4_154) [(8, .int .i64 (l.getD (i + 1).toNat 0)), (7, .int .i64 (l.getD (i).toNat 0)), (81, .int .i64 i), (80, .int .i64 ((l.length : Int) - 1)), (3, .slice ra5 l.length rc5), (1, .pointer (some ⟨b1, 0, none⟩))] w36 (by kernel_rfl) ?_
                      refine J.run 5 K4_155 [(95, .int .i64 (IntKind.wrap .i64 (Int.tdiv (l.getD (i).toNat 0) 8))), (8, .int .i64 (l.getD (i + 1).toNat 0)), (7, .int .i64 (l.getD (i).toNat 0)), (81, .int .i64 i), (80, .int .i64 ((l.length : Int) - 1)), (3, .slice ra5 l.length rc5), (1, .pointer (some ⟨b1, 0, none⟩))] w36 (by kernel_rfl) ?_
                      refine J.head (.int .i64 ((l.getD (i).toNat 0) / 8)) (congrArg (Value.int .i64) (IntWalk.i64_quo _ _ (by omega))) ?_
                      refine J.run 2 K4_156 [(97, .int .i64 (IntKind.wrap .i64 (Int.tdiv (l.getD (i + 1).toNat 0) 8))), (95, .int .i64 ((l.getD (i).toNat 0) / 8)), (8, .int .i64 (l.getD (i + 1).toNat 0)), (7, .int .i64 (l.getD (i).toNat 0)), (81, .int .i64 i), (80, .int .i64 ((l.length : Int) - 1)), (3, .slice ra5 l.length rc5), (1, .pointer (some ⟨b1, 0, none⟩))] w36 (by kernel_rfl) ?_
                      refine J.head (.int .i64 ((l.getD (i + 1).toNat 0) / 8)) (congrArg (Value.int .i64) (IntWalk.i64_quo _ _ (by omega))) ?_
                      refine J.run 3 K4_157 [(93, .bool (((l.getD (i).toNat 0) / 8) == ((l.getD (i + 1).toNat 0) / 8))), (8, .int .i64 (l.getD (i + 1).toNat 0)), (7, .int .i64 (l.getD (i).toNat 0)), (81, .int .i64 i), (80, .int .i64 ((l.length : Int) - 1)), (3, .slice ra5 l.length rc5), (1, .pointer (some ⟨b1, 0, none⟩))] w36 (by kernel_rfl) ?_
                      by_cases fk60 : ((l.getD (i).toNat 0) / 8) = ((l.getD (i + 1).toNat 0) / 8)
                      · skip
                        refine J.head (.bool true) (congrArg Value.bool (beq_iff_eq.2 fk60)) ?_
                        refine J.run 6 K4_158 [(101, .int .i64 (IntKind.wrap .i64 ((l.getD (i).toNat 0) + 1))), (99, .int .i64 (l.getD (i + 1).toNat 0)), (81, .int .i64 i), (80, .int .i64 ((l.length : Int) - 1)), (3, .slice ra5 l.length rc5), (1, .pointer (some ⟨b1, 0, none⟩))] w36 (by kernel_rfl) ?_
                        refine J.head (.int .i64 ((l.getD (i).toNat 0) + 1)) (congrArg (Value.int .i64) (IntWalk.i64_in _ (by omega))) ?_
                        refine J.run 2 K4_159 [(102, .bool ((l.getD (i + 1).toNat 0) != ((l.getD (i).toNat 0) + 1))), (81, .int .i64 i), (80, .int .i64 ((l.length : Int) - 1)), (3, .slice ra5 l.length rc5), (1, .pointer (some ⟨b1, 0, none⟩))] w36 (by kernel_rfl) ?_
                        by_cases fk61 : (l.getD (i + 1).toNat 0) = ((l.getD (i).toNat 0) + 1)
                        · skip
                          refine J.head (.bool false) (congrArg Value.bool (bne_eq_false_iff_eq.2 fk61)) ?_
                          refine J.run 6 K4_160 [(127, .int .i64 (IntKind.wrap .i64 (i + 1))), (80, .int .i64 ((l.length : Int) - 1)), (3, .slice ra5 l.length rc5), (1, .pointer (some ⟨b1, 0, none⟩))] w36 (by kernel_rfl) ?_
                          refine J.head (.int .i64 (i + 1)) (congrArg (Value.int .i64) (IntWalk.i64_in _ (by omega))) ?_
                          refine J.run 3 K4_152 [(81, .int .i64 (i + 1)), (80, .int .i64 ((l.length : Int) - 1)), (3, .slice ra5 l.length rc5), (1, .pointer (some ⟨b1, 0, none⟩))] w36 (by kernel_rfl) ?_
                          refine J.run 0 K4_152 [(81, .int .i64 (i + 1)), (80, .int .i64 ((l.length : Int) - 1)), (3, .slice ra5 l.length rc5), (1, .pointer (some ⟨b1, 0, none⟩))] w36 (by kernel_rfl) ?_
                          exact ih3 _ (show (ln - (i + 1)).toNat < mm3 from by omega) (i + 1) w36 (by omega) (by omega) S36 rfl
                        · skip
                          refine J.head (.bool true) (congrArg Value.bool (bne_iff_ne.2 fk61)) ?_
                          refine J.run 5 K4_161 [(2, .bool false)] w36 (by kernel_rfl) ?_
                          refine J.ret Try.f4 [.bool false] Try.func4 ⟨by kernel_rfl, trivial⟩ ?_
                          refine hR _ _ ?_
                          exfalso
                          omega
                      · skip
                        refine J.head (.bool false) (congrArg Value.bool (beq_eq_false_iff_ne.2 fk60)) ?_
                        refine J.run 4 K4_162 [(104, .pointer (some ⟨b1, 3, none⟩)), (8, .int .i64 (l.getD (i + 1).toNat 0)), (7, .int .i64 (l.getD (i).toNat 0)), (81, .int .i64 i), (80, .int .i64 ((l.length : Int) - 1)), (3, .slice ra5 l.length rc5), (1, .pointer (some ⟨b1, 0, none⟩))] w36 (by kernel_rfl) ?_
                        refine J.ok (OK.ldBox S36 1 105 4 3 (.bool mo) (by kernel_rfl) rfl (by kernel_rfl)) ?_
                        refine J.run 2 K4_163 [(103, .bool mo), (8, .int .i64 (l.getD (i + 1).toNat 0)), (7, .int .i64 (l.getD (i).toNat 0)), (81, .int .i64 i), (80, .int .i64 ((l.length : Int) - 1)), (3, .slice ra5 l.length rc5), (1, .pointer (some ⟨b1, 0, none⟩))] w36 (by kernel_rfl) ?_
                        refine J.head (.bool false) (congrArg Value.bool fk2) ?_
                        refine J.run 6 K4_164 [(125, .int .i64 (IntKind.wrap .i64 ((l.getD (i).toNat 0) + 1))), (123, .int .i64 (l.getD (i + 1).toNat 0)), (81, .int .i64 i), (80, .int .i64 ((l.length : Int) - 1)), (3, .slice ra5 l.length rc5), (1, .pointer (some ⟨b1, 0, none⟩))] w36 (by kernel_rfl) ?_
                        refine J.head (.int .i64 ((l.getD (i).toNat 0) + 1)) (congrArg (Value.int .i64) (IntWalk.i64_in _ (by omega))) ?_
                        refine J.run 3 K4_165 [(122, .bool ((l.getD (i + 1).toNat 0) != ((l.getD (i).toNat 0) + 1))), (81, .int .i64 i), (80, .int .i64 ((l.length : Int) - 1)), (3, .slice ra5 l.length rc5), (1, .pointer (some ⟨b1, 0, none⟩))] w36 (by kernel_rfl) ?_
                        by_cases fk63 : (l.getD (i + 1).toNat 0) = ((l.getD (i).toNat 0) + 1)
                        · skip
                          refine J.head (.bool false) (congrArg Value.bool (bne_eq_false_iff_eq.2 fk63)) ?_
                          refine J.run 6 K4_166 [(127, .int .i64 (IntKind.wrap .i64 (i + 1))), (80, .int .i64 ((l.length : Int) - 1)), (3, .slice ra5 l.length rc5), (1, .pointer (some ⟨b1, 0, none⟩))] w36 (by kernel_rfl) ?_
                          refine J.head (.int .i64 (i + 1)) (congrArg (Value.int .i64) (IntWalk.i64_in _ (by omega))) ?_
                          refine J.run 3 K4_152 [(81, .int .i64 (i + 1)), (80, .int .i64 ((l.length : Int) - 1)), (3, .slice ra5 l.length rc5), (1, .pointer (some ⟨b1, 0, none⟩))] w36 (by kernel_rfl) ?_
                          refine J.run 0 K4_152 [(81, .int .i64 (i + 1)), (80, .int .i64 ((l.length : Int) - 1)), (3, .slice ra5 l.length rc5), (1, .pointer (some ⟨b1, 0, none⟩))] w36 (by kernel_rfl) ?_
                          exact ih3 _ (show (ln - (i + 1)).toNat < mm3 from by omega) (i + 1) w36 (by omega) (by omega) S36 rfl
                        · skip
                          refine J.head (.bool true) (congrArg Value.bool (bne_iff_ne.2 fk63)) ?_
                          refine J.run 5 K4_167 [(2, .bool false)] w36 (by kernel_rfl) ?_
                          refine J.ret Try.f4 [.bool false] Try.func4 ⟨by kernel_rfl, trivial⟩ ?_
                          refine hR _ _ ?_
                          exfalso
                          omega
                    · skip
                      refine J.head (.bool false) (congrArg Value.bool (decide_eq_false fk59)) ?_
                      refine J.run 6 K4_168 [(128, .pointer (some ⟨b1, 3, none⟩)), (3, .slice ra5 l.length rc5), (1, .pointer (some ⟨b1, 0, none⟩))] w35 (by kernel_rfl) ?_
                      refine J.ok (OK.ldBox S35 1 129 4 3 (.bool mo) (by kernel_rfl) rfl (by kernel_rfl)) ?_
                      refine J.run 1 K4_169 [(129, .bool mo), (3, .slice ra5 l.length rc5), (1, .pointer (some ⟨b1, 0, none⟩))] w35 (by kernel_rfl) ?_
                      refine J.head (.bool false) (congrArg Value.bool fk2) ?_
                      refine J.run 2 K4_170 [(3, .slice ra5 l.length rc5), (1, .pointer (some ⟨b1, 0, none⟩))] w35 (by kernel_rfl) ?_
                      obtain ⟨p15, hp15⟩ := row1_addr (S35.nth 0 rfl) (show 0 < (l).length by first | omega | (simp; omega))
                      refine J.drawStill S35 6 Try.mixed (by kernel_rfl) (by kernel_rfl) (by kernel_rfl) ?_
                      intro w37 S37
                      refine SL.ok (by decide) (OK.run 139 (.slice ra5 l.length rc5) (by kernel_rfl)) ?_
                      refine SL.ok (by decide) (OK.index 140 28 1 ra5 p15 l.length 0 0 (p15.add 0) (by kernel_rfl) (by kernel_rfl) hp15 (by omega) (by first | omega | (simp; omega)) (by rw [Nat.mul_one])) ?_
                      refine SL.ok (by decide) (OK.ldCell 141 3 (p15.add 0) (.int .i64 (l.getD 0 0)) (by kernel_rfl) (by kernel_rfl) (row1_cell (g := (Value.int .i64)) S37 0 rfl hp15 0 0 (by first | omega | (simp; omega)))) ?_
                      refine SL.ok (by decide) (OK.run 142 (.pointer (some ⟨b1, 1, none⟩)) (by kernel_rfl)) ?_
                      refine SL.ok (by decide) (OK.ldBox S37 1 143 3 1 (.int .i64 st) (by kernel_rfl) rfl (by kernel_rfl)) ?_
                      refine SL.ok (by decide) (OK.run 144 (.bool ((l.getD 0 0) != st)) (by kernel_rfl)) ?_
                      refine SL.done ?_
                      refine TL.done (by kernel_rfl) ?_
                      refine J.run 0 (rRest K4_170) [(144, .bool ((l.getD 0 0) != st)), (3, .slice ra5 l.length rc5), (1, .pointer (some ⟨b1, 0, none⟩))] w37 (by kernel_rfl) ?_
                      by_cases fk65 : (l.getD 0 0) = st
                      · skip
                        refine J.head (.bool false) (congrArg Value.bool (bne_eq_false_iff_eq.2 fk65)) ?_
                        refine J.run 4 K4_171 [(3, .slice ra5 l.length rc5), (1, .pointer (some ⟨b1, 0, none⟩))] w37 (by kernel_rfl) ?_
                        refine J.ok (OK.ldBox S37 1 145 23 0 (.agg #[.string nm, .int .i64 st, .int .i64 ln, .bool mo, .bool sg, .int .i64 num, .int .i64 off, .int .i64 den, .int .i64 low, .int .i64 high]) (by kernel_rfl) rfl (by kernel_rfl)) ?_
                        refine J.new S37 9 [.string ByteArray.empty, .int .i64 0, .int .i64 0, .bool false, .bool false, .int .i64 0, .int .i64 0, .int .i64 0, .int .i64 0, .int .i64 0] 23 (by kernel_rfl) ?_
                        intro b4 w38 S38
                        refine J.stBox S38 0 23 0 (.agg #[.string nm, .int .i64 st, .int .i64 ln, .bool mo, .bool sg, .int .i64 num, .int .i64 off, .int .i64 den, .int .i64 low, .int .i64 high]) [.string nm, .int .i64 st, .int .i64 ln, .bool mo, .bool sg, .int .i64 num, .int .i64 off, .int .i64 den, .int .i64 low, .int .i64 high] [box b4 [.string nm, .int .i64 st, .int .i64 ln, .bool mo, .bool sg, .int .i64 num, .int .i64 off, .int .i64 den, .int .i64 low, .int .i64 high] 23, rowOf encI ra5 rc5 3 1 l, box b1 [.string nm, .int .i64 st, .int .i64 ln, .bool mo, .bool sg, .int .i64 num, .int .i64 off, .int .i64 den, .int .i64 low, .int .i64 high] 23] (by kernel_rfl) rfl (by kernel_rfl) (by kernel_rfl) rfl ?_
                        intro w39 S39
                        refine J.run 3 K4_172 [(9, .pointer (some ⟨b4, 0, none⟩)), (3, .slice ra5 l.length rc5), (1, .pointer (some ⟨b1, 0, none⟩))] w39 (by kernel_rfl) ?_
                        by_cases fk66 : ((l.getD 0 0) / 8) = ((l.getD ((l.length : Int) - 1).toNat 0) / 8)
                        · skip
                          by_cases fk67 : (l.getD 0 0) ≥ 0
                          · skip
                            obtain ⟨p16, hp16⟩ := row1_addr (S39.nth 1 rfl) (show 0 < (l).length by first | omega | (simp; omega))
                            refine J.drawStill S39 27 Try.mixed (by kernel_rfl) (by kernel_rfl) (by kernel_rfl) ?_
                            intro w40 S40
                            refine SL.ok (by decide) (OK.run 146 (.slice ra5 l.length rc5) (by kernel_rfl)) ?_
                            refine SL.ok (by decide) (OK.index 147 28 1 ra5 p15 l.length 0 0 (p15.add 0) (by kernel_rfl) (by kernel_rfl) hp15 (by omega) (by first | omega | (simp; omega)) (by rw [Nat.mul_one])) ?_
                            refine SL.ok (by decide) (OK.ldCell 148 3 (p15.add 0) (.int .i64 (l.getD 0 0)) (by kernel_rfl) (by kernel_rfl) (row1_cell (g := (Value.int .i64)) S40 1 rfl hp15 0 0 (by first | omega | (simp; omega)))) ?_
                            refine SL.ok (by decide) (OK.run 149 (.int .i64 (IntKind.wrap .i64 (Int.tdiv (l.getD 0 0) 8))) (by kernel_rfl)) ?_
                            refine SL.head (.int .i64 ((l.getD 0 0) / 8)) (congrArg (Value.int .i64) (IntWalk.i64_quo _ _ (by omega))) ?_
                            refine SL.ok (by decide) (OK.run 150 (.slice ra5 l.length rc5) (by kernel_rfl)) ?_
                            refine SL.ok (by decide) (OK.run 151 (.slice ra5 l.length rc5) (by kernel_rfl)) ?_
                            refine SL.ok (by decide) (OK.run 152 (.int .i64 (l.length : Int)) (by kernel_rfl)) ?_
                            refine SL.ok (by decide) (OK.run 153 (.int .i64 (IntKind.wrap .i64 ((l.length : Int) - 1))) (by kernel_rfl)) ?_
                            refine SL.head (.int .i64 ((l.length : Int) - 1)) (congrArg (Value.int .i64) (IntWalk.i64_in _ (by omega))) ?_
                            refine SL.ok (by decide) (OK.index 154 28 1 ra5 p16 l.length ((l.length : Int) - 1).toNat ((l.length : Int) - 1) (p16.add ((l.length : Int) - 1).toNat) (by kernel_rfl) (by kernel_rfl) hp16 (by omega) (by first | omega | (simp; omega)) (by rw [Nat.mul_one])) ?_
                            refine SL.ok (by decide) (OK.ldCell 155 3 (p16.add ((l.length : Int) - 1).toNat) (.int .i64 (l.getD ((l.length : Int) - 1).toNat 0)) (by kernel_rfl) (by kernel_rfl) (row1_cell (g := (Value.int .i64)) S40 1 rfl hp16 0 ((l.length : Int) - 1).toNat (by first | omega | (simp; omega)))) ?_
                            refine SL.ok (by decide) (OK.run 156 (.int .i64 (IntKind.wrap .i64 (Int.tdiv (l.getD ((l.length : Int) - 1).toNat 0) 8))) (by kernel_rfl)) ?_
                            refine SL.head (.int .i64 ((l.getD ((l.length : Int) - 1).toNat 0) / 8)) (congrArg (Value.int .i64) (IntWalk.i64_quo _ _ (by omega))) ?_
                            refine SL.ok (by decide) (OK.run 157 (.bool (((l.getD 0 0) / 8) == ((l.getD ((l.length : Int) - 1).toNat 0) / 8))) (by kernel_rfl)) ?_
                            refine SL.head (.bool true) (congrArg Value.bool (beq_iff_eq.2 fk66)) ?_
                            refine SL.ok (by decide) (OK.run 158 (.bool true) (by kernel_rfl)) ?_
                            refine SL.ok (by decide) (OK.run 159 (.slice ra5 l.length rc5) (by kernel_rfl)) ?_
                            refine SL.ok (by decide) (OK.index 160 28 1 ra5 p15 l.length 0 0 (p15.add 0) (by kernel_rfl) (by kernel_rfl) hp15 (by omega) (by first | omega | (simp; omega)) (by rw [Nat.mul_one])) ?_
                            refine SL.ok (by decide) (OK.ldCell 161 3 (p15.add 0) (.int .i64 (l.getD 0 0)) (by kernel_rfl) (by kernel_rfl) (row1_cell (g := (Value.int .i64)) S40 1 rfl hp15 0 0 (by first | omega | (simp; omega)))) ?_
                            refine SL.ok (by decide) (OK.run 162 (.bool (decide ((l.getD 0 0) ≥ 0))) (by kernel_rfl)) ?_
                            refine SL.head (.bool true) (congrArg Value.bool (decide_eq_true fk67)) ?_
                            refine SL.ok (by decide) (OK.run 163 (.bool true) (by kernel_rfl)) ?_
                            refine SL.ok (by decide) (OK.run 164 (.bool true) (by kernel_rfl)) ?_
                            refine SL.ok (by decide) (OK.run 165 (.slice ra5 l.length rc5) (by kernel_rfl)) ?_
                            refine SL.ok (by decide) (OK.run 166 (.slice ra5 l.length rc5) (by kernel_rfl)) ?_
                            refine SL.ok (by decide) (OK.run 167 (.int .i64 (l.length : Int)) (by kernel_rfl)) ?_
                            refine SL.ok (by decide) (OK.run 168 (.int .i64 (IntKind.wrap .i64 ((l.length : Int) - 1))) (by kernel_rfl)) ?_
                            refine SL.head (.int .i64 ((l.length : Int) - 1)) (congrArg (Value.int .i64) (IntWalk.i64_in _ (by omega))) ?_
                            refine SL.ok (by decide) (OK.index 169 28 1 ra5 p16 l.length ((l.length : Int) - 1).toNat ((l.length : Int) - 1) (p16.add ((l.length : Int) - 1).toNat) (by kernel_rfl) (by kernel_rfl) hp16 (by omega) (by first | omega | (simp; omega)) (by rw [Nat.mul_one])) ?_
                            refine SL.ok (by decide) (OK.ldCell 170 3 (p16.add ((l.length : Int) - 1).toNat) (.int .i64 (l.getD ((l.length : Int) - 1).toNat 0)) (by kernel_rfl) (by kernel_rfl) (row1_cell (g := (Value.int .i64)) S40 1 rfl hp16 0 ((l.length : Int) - 1).toNat (by first | omega | (simp; omega)))) ?_
                            refine SL.ok (by decide) (OK.run 171 (.bool (decide ((l.getD ((l.length : Int) - 1).toNat 0) < 64))) (by kernel_rfl)) ?_
                            refine SL.ok (by decide) (OK.run 172 (.bool (decide ((l.getD ((l.length : Int) - 1).toNat 0) < 64))) (by kernel_rfl)) ?_
                            refine SL.done ?_
                            refine TL.done (by kernel_rfl) ?_
                            refine J.run 0 (rRest K4_172) [(172, .bool (decide ((l.getD ((l.length : Int) - 1).toNat 0) < 64))), (9, .pointer (some ⟨b4, 0, none⟩)), (3, .slice ra5 l.length rc5), (1, .pointer (some ⟨b1, 0, none⟩))] w40 (by kernel_rfl) ?_
                            by_cases fk68 : (l.getD ((l.length : Int) - 1).toNat 0) < 64
                            · skip
                              refine J.head (.bool true) (congrArg Value.bool (decide_eq_true fk68)) ?_
                              refine J.run 4 K4_173 [(173, .pointer (some ⟨b1, 3, none⟩)), (9, .pointer (some ⟨b4, 0, none⟩)), (3, .slice ra5 l.length rc5), (1, .pointer (some ⟨b1, 0, none⟩))] w40 (by kernel_rfl) ?_
                              refine J.ok (OK.ldBox S40 2 174 4 3 (.bool mo) (by kernel_rfl) rfl (by kernel_rfl)) ?_
                              refine J.run 2 K4_174 [(176, .pointer (some ⟨b4, 3, none⟩)), (175, .bool (!mo)), (9, .pointer (some ⟨b4, 0, none⟩)), (3, .slice ra5 l.length rc5), (1, .pointer (some ⟨b1, 0, none⟩))] w40 (by kernel_rfl) ?_
                              refine J.stBox S40 0 4 3 (.bool (!mo)) [.string nm, .int .i64 st, .int .i64 ln, .bool (!mo), .bool sg, .int .i64 num, .int .i64 off, .int .i64 den, .int .i64 low, .int .i64 high] [box b4 [.string nm, .int .i64 st, .int .i64 ln, .bool (!mo), .bool sg, .int .i64 num, .int .i64 off, .int .i64 den, .int .i64 low, .int .i64 high] 23, rowOf encI ra5 rc5 3 1 l, box b1 [.string nm, .int .i64 st, .int .i64 ln, .bool mo, .bool sg, .int .i64 num, .int .i64 off, .int .i64 den, .int .i64 low, .int .i64 high] 23] (by kernel_rfl) rfl (by kernel_rfl) (by kernel_rfl) rfl ?_
                              intro w41 S41
                              refine J.run 7 K4_175 [(180, .int .i64 (IntKind.wrap .i64 ((l.length : Int) - 1))), (177, .slice ra5 l.length rc5), (9, .pointer (some ⟨b4, 0, none⟩)), (3, .slice ra5 l.length rc5), (1, .pointer (some ⟨b1, 0, none⟩))] w41 (by kernel_rfl) ?_
                              refine J.head (.int .i64 ((l.length : Int) - 1)) (congrArg (Value.int .i64) (IntWalk.i64_in _ (by omega))) ?_
                              refine J.ok (OK.index 181 28 1 ra5 p16 l.length ((l.length : Int) - 1).toNat ((l.length : Int) - 1) (p16.add ((l.length : Int) - 1).toNat) (by kernel_rfl) (by kernel_rfl) hp16 (by omega) (by first | omega | (simp; omega)) (by rw [Nat.mul_one])) ?_
                              refine J.ok (OK.ldCell 182 3 (p16.add ((l.length : Int) - 1).toNat) (.int .i64 (l.getD ((l.length : Int) - 1).toNat 0)) (by kernel_rfl) (by kernel_rfl) (row1_cell (g := (Value.int .i64)) S41 1 rfl hp16 0 ((l.length : Int) - 1).toNat (by first | omega | (simp; omega)))) ?_
                              refine J.run 1 K4_176 [(183, .pointer (some ⟨b4, 1, none⟩)), (182, .int .i64 (l.getD ((l.length : Int) - 1).toNat 0)), (9, .pointer (some ⟨b4, 0, none⟩)), (3, .slice ra5 l.length rc5), (1, .pointer (some ⟨b1, 0, none⟩))] w41 (by kernel_rfl) ?_
                              refine J.stBox S41 0 3 1 (.int .i64 (l.getD ((l.length : Int) - 1).toNat 0)) [.string nm, .int .i64 (l.getD ((l.length : Int) - 1).toNat 0), .int .i64 ln, .bool (!mo), .bool sg, .int .i64 num, .int .i64 off, .int .i64 den, .int .i64 low, .int .i64 high] [box b4 [.string nm, .int .i64 (l.getD ((l.length : Int) - 1).toNat 0), .int .i64 ln, .bool (!mo), .bool sg, .int .i64 num, .int .i64 off, .int .i64 den, .int .i64 low, .int .i64 high] 23, rowOf encI ra5 rc5 3 1 l, box b1 [.string nm, .int .i64 st, .int .i64 ln, .bool mo, .bool sg, .int .i64 num, .int .i64 off, .int .i64 den, .int .i64 low, .int .i64 high] 23] (by kernel_rfl) rfl (by kernel_rfl) (by kernel_rfl) rfl ?_
                              intro w42 S42
                              refine J.run 5 K4_177 [(184, .pointer (some ⟨b1, 3, none⟩)), (9, .pointer (some ⟨b4, 0, none⟩)), (3, .slice ra5 l.length rc5)] w42 (by kernel_rfl) ?_
                              refine J.ok (OK.ldBox S42 2 185 4 3 (.bool mo) (by kernel_rfl) rfl (by kernel_rfl)) ?_
                              refine J.run 1 K4_178 [(185, .bool mo), (9, .pointer (some ⟨b4, 0, none⟩)), (3, .slice ra5 l.length rc5)] w42 (by kernel_rfl) ?_
                              refine J.head (.bool false) (congrArg Value.bool fk2) ?_
                              refine J.run 4 K4_179 [(9, .pointer (some ⟨b4, 0, none⟩)), (3, .slice ra5 l.length rc5)] w42 (by kernel_rfl) ?_
                              refine J.ok (OK.ldBox S42 0 190 23 0 (.agg #[.string nm, .int .i64 (l.getD ((l.length : Int) - 1).toNat 0), .int .i64 ln, .bool (!mo), .bool sg, .int .i64 num, .int .i64 off, .int .i64 den, .int .i64 low, .int .i64 high]) (by kernel_rfl) rfl (by kernel_rfl)) ?_
                              refine J.callF 191 11 #[.agg #[.string nm, .int .i64 (l.getD ((l.length : Int) - 1).toNat 0), .int .i64 ln, .bool (!mo), .bool sg, .int .i64 num, .int .i64 off, .int .i64 den, .int .i64 low, .int .i64 high]] hb11 (by kernel_rfl) (bits_any nm (l.getD ((l.length : Int) - 1).toNat 0) ln (!mo) sg num off den low high _ (by first | omega | decide)) ?_
                              rintro _ w43 ⟨ra6, rc6, rfl, T12⟩
                              have S43 : Sep w [rowOf encI ra6 rc6 3 1 (bitsF nm (l.getD ((l.length : Int) - 1).toNat 0) ln (!mo) sg num off den low high), box b4 [.string nm, .int .i64 (l.getD ((l.length : Int) - 1).toNat 0), .int .i64 ln, .bool (!mo), .bool sg, .int .i64 num, .int .i64 off, .int .i64 den, .int .i64 low, .int .i64 high] 23, rowOf encI ra5 rc5 3 1 l, box b1 [.string nm, .int .i64 st, .int .i64 ln, .bool mo, .bool sg, .int .i64 num, .int .i64 off, .int .i64 den, .int .i64 low, .int .i64 high] 23] w43 := S42.trans T12
                              clear T12 S42
                              refine J.run 1 K4_180 [(192, .slice ra5 l.length rc5), (191, .slice ra6 ((bitsF nm (l.getD ((l.length : Int) - 1).toNat 0) ln (!mo) sg num off den low high).length) rc6)] w43 (by kernel_rfl) ?_
                              have := rowOf_len (S43.nth 0 rfl)
                              have := rowOf_len (S43.nth 2 rfl)
                              refine J.callF 193 10 #[.slice ra6 ((bitsF nm (l.getD ((l.length : Int) - 1).toNat 0) ln (!mo) sg num off den low high).length) rc6, .slice ra5 l.length rc5] hb10 (by kernel_rfl) (equal_any ra6 ((bitsF nm (l.getD ((l.length : Int) - 1).toNat 0) ln (!mo) sg num off den low high).length) rc6 (bitsF nm (l.getD ((l.length : Int) - 1).toNat 0) ln (!mo) sg num off den low high) ra5 l.length rc5 l _ ((row1_ones (S43.nth 0 rfl) ((bitsF nm (l.getD ((l.length : Int) - 1).toNat 0) ln (!mo) sg num off den low high).length) (by first | rfl | omega | simp))) ((row1_ones (S43.nth 2 rfl) l.length (by first | rfl | omega | simp))) (by first | omega | (simp; omega))) ?_
                              rintro _ w44 ⟨rfl, T13⟩
                              have S44 : Sep w [rowOf encI ra6 rc6 3 1 (bitsF nm (l.getD ((l.length : Int) - 1).toNat 0) ln (!mo) sg num off den low high), box b4 [.string nm, .int .i64 (l.getD ((l.length : Int) - 1).toNat 0), .int .i64 ln, .bool (!mo), .bool sg, .int .i64 num, .int .i64 off, .int .i64 den, .int .i64 low, .int .i64 high] 23, rowOf encI ra5 rc5 3 1 l, box b1 [.string nm, .int .i64 st, .int .i64 ln, .bool mo, .bool sg, .int .i64 num, .int .i64 off, .int .i64 den, .int .i64 low, .int .i64 high] 23] w44 := S43.trans T13
                              clear T13 S43
                              refine J.run 2 K4_181 [(2, .bool ((bitsF nm (l.getD ((l.length : Int) - 1).toNat 0) ln (!mo) sg num off den low high) == l))] w44 (by kernel_rfl) ?_
                              refine J.ret Try.f4 [.bool ((bitsF nm (l.getD ((l.length : Int) - 1).toNat 0) ln (!mo) sg num off den low high) == l)] Try.func4 ⟨by kernel_rfl, trivial⟩ ?_
                              refine hR _ _ ?_
                              have fk70 : ((bitsF nm (l.getD ((l.length : Int) - 1).toNat 0) ln (!mo) sg num off den low high) == l) = true := by rw [other_same fk48 hl (by rw [show (ln - 1).toNat = ((l.length : Int) - 1).toNat by omega]; omega) (by simp [fk2]) (by simp only [fk2, if_true, if_false, Bool.false_eq_true]; try rw [show (ln - 1).toNat = ((l.length : Int) - 1).toNat by omega]) (by omega)]; simp
                              exact ⟨congrArg Value.bool fk70, S44.nil⟩
                            · skip
                              refine J.head (.bool false) (congrArg Value.bool (decide_eq_false fk68)) ?_
                              refine J.run 6 K4_182 [(2, .bool true)] w40 (by kernel_rfl) ?_
                              refine J.ret Try.f4 [.bool true] Try.func4 ⟨by kernel_rfl, trivial⟩ ?_
                              refine hR _ _ ?_
                              exact ⟨rfl, S40.nil⟩
                          · skip
                            obtain ⟨p17, hp17⟩ := row1_addr (S39.nth 1 rfl) (show 0 < (l).length by first | omega | (simp; omega))
                            refine J.drawStill S39 27 Try.mixed (by kernel_rfl) (by kernel_rfl) (by kernel_rfl) ?_
                            intro w45 S45
                            refine SL.ok (by decide) (OK.run 146 (.slice ra5 l.length rc5) (by kernel_rfl)) ?_
                            refine SL.ok (by decide) (OK.index 147 28 1 ra5 p15 l.length 0 0 (p15.add 0) (by kernel_rfl) (by kernel_rfl) hp15 (by omega) (by first | omega | (simp; omega)) (by rw [Nat.mul_one])) ?_
                            refine SL.ok (by decide) (OK.ldCell 148 3 (p15.add 0) (.int .i64 (l.getD 0 0)) (by kernel_rfl) (by kernel_rfl) (row1_cell (g := (Value.int .i64)) S45 1 rfl hp15 0 0 (by first | omega | (simp; omega)))) ?_
                            refine SL.ok (by decide) (OK.run 149 (.int .i64 (IntKind.wrap .i64 (Int.tdiv (l.getD 0 0) 8))) (by kernel_rfl)) ?_
                            refine SL.head (.int .i64 ((l.getD 0 0) / 8)) (congrArg (Value.int .i64) (IntWalk.i64_quo _ _ (by omega))) ?_
                            refine SL.ok (by decide) (OK.run 150 (.slice ra5 l.length rc5) (by kernel_rfl)) ?_
                            refine SL.ok (by decide) (OK.run 151 (.slice ra5 l.length rc5) (by kernel_rfl)) ?_
                            refine SL.ok (by decide) (OK.run 152 (.int .i64 (l.length : Int)) (by kernel_rfl)) ?_
                            refine SL.ok (by decide) (OK.run 153 (.int .i64 (IntKind.wrap .i64 ((l.length : Int) - 1))) (by kernel_rfl)) ?_
                            refine SL.head (.int .i64 ((l.length : Int) - 1)) (congrArg (Value.int .i64) (IntWalk.i64_in _ (by omega))) ?_
                            refine SL.ok (by decide) (OK.index 154 28 1 ra5 p17 l.length ((l.length : Int) - 1).toNat ((l.length : Int) - 1) (p17.add ((l.length : Int) - 1).toNat) (by kernel_rfl) (by kernel_rfl) hp17 (by omega) (by first | omega | (simp; omega)) (by rw [Nat.mul_one])) ?_
                            refine SL.ok (by decide) (OK.ldCell 155 3 (p17.add ((l.length : Int) - 1).toNat) (.int .i64 (l.getD ((l.length : Int) - 1).toNat 0)) (by kernel_rfl) (by kernel_rfl) (row1_cell (g := (Value.int .i64)) S45 1 rfl hp17 0 ((l.length : Int) - 1).toNat (by first | omega | (simp; omega)))) ?_
                            refine SL.ok (by decide) (OK.run 156 (.int .i64 (IntKind.wrap .i64 (Int.tdiv (l.getD ((l.length : Int) - 1).toNat 0) 8))) (by kernel_rfl)) ?_
                            refine SL.head (.int .i64 ((l.getD ((l.length : Int) - 1).toNat 0) / 8)) (congrArg (Value.int .i64) (IntWalk.i64_quo _ _ (by omega))) ?_
                            refine SL.ok (by decide) (OK.run 157 (.bool (((l.getD 0 0) / 8) == ((l.getD ((l.length : Int) - 1).toNat 0) / 8))) (by kernel_rfl)) ?_
                            refine SL.head (.bool true) (congrArg Value.bool (beq_iff_eq.2 fk66)) ?_
                            refine SL.ok (by decide) (OK.run 158 (.bool true) (by kernel_rfl)) ?_
                            refine SL.ok (by decide) (OK.run 159 (.slice ra5 l.length rc5) (by kernel_rfl)) ?_
                            refine SL.ok (by decide) (OK.index 160 28 1 ra5 p15 l.length 0 0 (p15.add 0) (by kernel_rfl) (by kernel_rfl) hp15 (by omega) (by first | omega | (simp; omega)) (by rw [Nat.mul_one])) ?_
                            refine SL.ok (by decide) (OK.ldCell 161 3 (p15.add 0) (.int .i64 (l.getD 0 0)) (by kernel_rfl) (by kernel_rfl) (row1_cell (g := (Value.int .i64)) S45 1 rfl hp15 0 0 (by first | omega | (simp; omega)))) ?_
                            refine SL.ok (by decide) (OK.run 162 (.bool (decide ((l.getD 0 0) ≥ 0))) (by kernel_rfl)) ?_
                            refine SL.head (.bool false) (congrArg Value.bool (decide_eq_false fk67)) ?_
                            refine SL.ok (by decide) (OK.run 163 (.bool false) (by kernel_rfl)) ?_
                            refine SL.ok (by decide) (OK.run 164 (.bool false) (by kernel_rfl)) ?_
                            refine SL.pass (d := some 165) (by decide) (by kernel_rfl) ?_
                            refine SL.pass (d := some 166) (by decide) (by kernel_rfl) ?_
                            refine SL.pass (d := some 167) (by decide) (by kernel_rfl) ?_
                            refine SL.pass (d := some 168) (by decide) (by kernel_rfl) ?_
                            refine SL.pass (d := some 169) (by decide) (by kernel_rfl) ?_
                            refine SL.pass (d := some 170) (by decide) (by kernel_rfl) ?_
                            refine SL.pass (d := some 171) (by decide) (by kernel_rfl) ?_
                            refine SL.ok (by decide) (OK.run 172 (.bool false) (by kernel_rfl)) ?_
                            refine SL.done ?_
                            refine TL.done (by kernel_rfl) ?_
                            refine J.run 0 (rRest K4_172) [(172, .bool false), (9, .pointer (some ⟨b4, 0, none⟩)), (3, .slice ra5 l.length rc5), (1, .pointer (some ⟨b1, 0, none⟩))] w45 (by kernel_rfl) ?_
                            refine J.run 6 K4_183 [(2, .bool true)] w45 (by kernel_rfl) ?_
                            refine J.ret Try.f4 [.bool true] Try.func4 ⟨by kernel_rfl, trivial⟩ ?_
                            refine hR _ _ ?_
                            exact ⟨rfl, S45.nil⟩
                        · skip
                          obtain ⟨p18, hp18⟩ := row1_addr (S39.nth 1 rfl) (show 0 < (l).length by first | omega | (simp; omega))
                          refine J.drawStill S39 27 Try.mixed (by kernel_rfl) (by kernel_rfl) (by kernel_rfl) ?_
                          intro w46 S46
                          refine SL.ok (by decide) (OK.run 146 (.slice ra5 l.length rc5) (by kernel_rfl)) ?_
                          refine SL.ok (by decide) (OK.index 147 28 1 ra5 p15 l.length 0 0 (p15.add 0) (by kernel_rfl) (by kernel_rfl) hp15 (by omega) (by first | omega | (simp; omega)) (by rw [Nat.mul_one])) ?_
                          refine SL.ok (by decide) (OK.ldCell 148 3 (p15.add 0) (.int .i64 (l.getD 0 0)) (by kernel_rfl) (by kernel_rfl) (row1_cell (g := (Value.int .i64)) S46 1 rfl hp15 0 0 (by first | omega | (simp; omega)))) ?_
                          refine SL.ok (by decide) (OK.run 149 (.int .i64 (IntKind.wrap .i64 (Int.tdiv (l.getD 0 0) 8))) (by kernel_rfl)) ?_
                          refine SL.head (.int .i64 ((l.getD 0 0) / 8)) (congrArg (Value.int .i64) (IntWalk.i64_quo _ _ (by omega))) ?_
                          refine SL.ok (by decide) (OK.run 150 (.slice ra5 l.length rc5) (by kernel_rfl)) ?_
                          refine SL.ok (by decide) (OK.run 151 (.slice ra5 l.length rc5) (by kernel_rfl)) ?_
                          refine SL.ok (by decide) (OK.run 152 (.int .i64 (l.length : Int)) (by kernel_rfl)) ?_
                          refine SL.ok (by decide) (OK.run 153 (.int .i64 (IntKind.wrap .i64 ((l.length : Int) - 1))) (by kernel_rfl)) ?_
                          refine SL.head (.int .i64 ((l.length : Int) - 1)) (congrArg (Value.int .i64) (IntWalk.i64_in _ (by omega))) ?_
                          refine SL.ok (by decide) (OK.index 154 28 1 ra5 p18 l.length ((l.length : Int) - 1).toNat ((l.length : Int) - 1) (p18.add ((l.length : Int) - 1).toNat) (by kernel_rfl) (by kernel_rfl) hp18 (by omega) (by first | omega | (simp; omega)) (by rw [Nat.mul_one])) ?_
                          refine SL.ok (by decide) (OK.ldCell 155 3 (p18.add ((l.length : Int) - 1).toNat) (.int .i64 (l.getD ((l.length : Int) - 1).toNat 0)) (by kernel_rfl) (by kernel_rfl) (row1_cell (g := (Value.int .i64)) S46 1 rfl hp18 0 ((l.length : Int) - 1).toNat (by first | omega | (simp; omega)))) ?_
                          refine SL.ok (by decide) (OK.run 156 (.int .i64 (IntKind.wrap .i64 (Int.tdiv (l.getD ((l.length : Int) - 1).toNat 0) 8))) (by kernel_rfl)) ?_
                          refine SL.head (.int .i64 ((l.getD ((l.length : Int) - 1).toNat 0) / 8)) (congrArg (Value.int .i64) (IntWalk.i64_quo _ _ (by omega))) ?_
                          refine SL.ok (by decide) (OK.run 157 (.bool (((l.getD 0 0) / 8) == ((l.getD ((l.length : Int) - 1).toNat 0) / 8))) (by kernel_rfl)) ?_
                          refine SL.head (.bool false) (congrArg Value.bool (beq_eq_false_iff_ne.2 fk66)) ?_
                          refine SL.ok (by decide) (OK.run 158 (.bool false) (by kernel_rfl)) ?_
                          refine SL.pass (d := some 159) (by decide) (by kernel_rfl) ?_
                          refine SL.pass (d := some 160) (by decide) (by kernel_rfl) ?_
                          refine SL.pass (d := some 161) (by decide) (by kernel_rfl) ?_
                          refine SL.pass (d := some 162) (by decide) (by kernel_rfl) ?_
                          refine SL.ok (by decide) (OK.run 163 (.bool false) (by kernel_rfl)) ?_
                          refine SL.ok (by decide) (OK.run 164 (.bool false) (by kernel_rfl)) ?_
                          refine SL.pass (d := some 165) (by decide) (by kernel_rfl) ?_
                          refine SL.pass (d := some 166) (by decide) (by kernel_rfl) ?_
                          refine SL.pass (d := some 167) (by decide) (by kernel_rfl) ?_
                          refine SL.pass (d := some 168) (by decide) (by kernel_rfl) ?_
                          refine SL.pass (d := some 169) (by decide) (by kernel_rfl) ?_
                          refine SL.pass (d := some 170) (by decide) (by kernel_rfl) ?_
                          refine SL.pass (d := some 171) (by decide) (by kernel_rfl) ?_
                          refine SL.ok (by decide) (OK.run 172 (.bool false) (by kernel_rfl)) ?_
                          refine SL.done ?_
                          refine TL.done (by kernel_rfl) ?_
                          refine J.run 0 (rRest K4_172) [(172, .bool false), (9, .pointer (some ⟨b4, 0, none⟩)), (3, .slice ra5 l.length rc5), (1, .pointer (some ⟨b1, 0, none⟩))] w46 (by kernel_rfl) ?_
                          refine J.run 6 K4_184 [(2, .bool true)] w46 (by kernel_rfl) ?_
                          refine J.ret Try.f4 [.bool true] Try.func4 ⟨by kernel_rfl, trivial⟩ ?_
                          refine hR _ _ ?_
                          exact ⟨rfl, S46.nil⟩
                      · skip
                        refine J.head (.bool true) (congrArg Value.bool (bne_iff_ne.2 fk65)) ?_
                        refine J.run 5 K4_185 [(2, .bool false)] w37 (by kernel_rfl) ?_
                        refine J.ret Try.f4 [.bool false] Try.func4 ⟨by kernel_rfl, trivial⟩ ?_
                        refine hR _ _ ?_
                        exfalso
                        omega
                  exact L4_3 _ 0 w34 (by omega) (by omega) S34 rfl
            · skip
              refine J.head (.bool true) (congrArg Value.bool (bne_iff_ne.2 fk55)) ?_
              refine J.run 26 K4_186 [(2, .bool false)] w34 (by kernel_rfl) ?_
              refine J.ret Try.f4 [.bool false] Try.func4 ⟨by kernel_rfl, trivial⟩ ?_
              refine hR _ _ ?_
              exfalso
              omega
          · skip
            refine J.head (.bool false) (congrArg Value.bool fk54) ?_
            have fb9 := hsg2 fk54
            refine J.run 8 K4_187 [(58, .pointer (some ⟨b1, 4, none⟩)), (57, .bool false), (5, .int .i64 (highF ln sg)), (4, .int .i64 (lowF ln sg)), (3, .slice ra5 l.length rc5), (1, .pointer (some ⟨b1, 0, none⟩))] w34 (by kernel_rfl) ?_
            refine J.ok (OK.ldBox S34 1 59 4 4 (.bool sg) (by kernel_rfl) rfl (by kernel_rfl)) ?_
            refine J.run 2 K4_188 [(61, .bool (!sg)), (57, .bool false), (5, .int .i64 (highF ln sg)), (4, .int .i64 (lowF ln sg)), (3, .slice ra5 l.length rc5), (1, .pointer (some ⟨b1, 0, none⟩))] w34 (by kernel_rfl) ?_
            refine J.head (.bool true) (congrArg Value.bool (by rw [fk54]; rfl)) ?_
            refine J.run 5 K4_189 [(66, .bool ((lowF ln sg) != 0)), (5, .int .i64 (highF ln sg)), (4, .int .i64 (lowF ln sg)), (3, .slice ra5 l.length rc5), (1, .pointer (some ⟨b1, 0, none⟩))] w34 (by kernel_rfl) ?_
            by_cases fk72 : (lowF ln sg) = 0
            · skip
              refine J.head (.bool false) (congrArg Value.bool (bne_eq_false_iff_eq.2 fk72)) ?_
              refine J.run 1 K4_190 [(67, .pointer (some ⟨b1, 8, none⟩)), (66, .bool false), (5, .int .i64 (highF ln sg)), (4, .int .i64 (lowF ln sg)), (3, .slice ra5 l.length rc5), (1, .pointer (some ⟨b1, 0, none⟩))] w34 (by kernel_rfl) ?_
              refine J.ok (OK.ldBox S34 1 68 3 8 (.int .i64 low) (by kernel_rfl) rfl (by kernel_rfl)) ?_
              refine J.run 4 K4_191 [(72, .bool (decide (low < (lowF ln sg)))), (5, .int .i64 (highF ln sg)), (3, .slice ra5 l.length rc5), (1, .pointer (some ⟨b1, 0, none⟩))] w34 (by kernel_rfl) ?_
              by_cases fk73 : low < (lowF ln sg)
              · skip
                refine J.head (.bool true) (congrArg Value.bool (decide_eq_true fk73)) ?_
                refine J.run 11 K4_192 [(2, .bool false)] w34 (by kernel_rfl) ?_
                refine J.ret Try.f4 [.bool false] Try.func4 ⟨by kernel_rfl, trivial⟩ ?_
                refine hR _ _ ?_
                exfalso
                omega
              · skip
                refine J.head (.bool false) (congrArg Value.bool (decide_eq_false fk73)) ?_
                refine J.run 1 K4_193 [(73, .pointer (some ⟨b1, 9, none⟩)), (72, .bool false), (5, .int .i64 (highF ln sg)), (3, .slice ra5 l.length rc5), (1, .pointer (some ⟨b1, 0, none⟩))] w34 (by kernel_rfl) ?_
                refine J.ok (OK.ldBox S34 1 74 3 9 (.int .i64 high) (by kernel_rfl) rfl (by kernel_rfl)) ?_
                refine J.run 4 K4_194 [(77, .bool (decide (high > (highF ln sg)))), (3, .slice ra5 l.length rc5), (1, .pointer (some ⟨b1, 0, none⟩))] w34 (by kernel_rfl) ?_
                by_cases fk74 : high > (highF ln sg)
                · skip
                  refine J.head (.bool true) (congrArg Value.bool (decide_eq_true fk74)) ?_
                  refine J.run 5 K4_195 [(2, .bool false)] w34 (by kernel_rfl) ?_
                  refine J.ret Try.f4 [.bool false] Try.func4 ⟨by kernel_rfl, trivial⟩ ?_
                  refine hR _ _ ?_
                  exfalso
                  omega
                · skip
                  refine J.head (.bool false) (congrArg Value.bool (decide_eq_false fk74)) ?_
                  refine J.run 8 K4_196 [(80, .int .i64 (IntKind.wrap .i64 ((l.length : Int) - 1))), (3, .slice ra5 l.length rc5), (1, .pointer (some ⟨b1, 0, none⟩))] w34 (by kernel_rfl) ?_
                  refine J.head (.int .i64 ((l.length : Int) - 1)) (congrArg (Value.int .i64) (IntWalk.i64_in _ (by omega))) ?_
                  refine J.run 4 K4_197 [(81, .int .i64 0), (80, .int .i64 ((l.length : Int) - 1)), (3, .slice ra5 l.length rc5), (1, .pointer (some ⟨b1, 0, none⟩))] w34 (by kernel_rfl) ?_
                  have L4_4 : ∀ (mm_ : Nat) (i : Int) (w47 : World), (0 ≤ i) → (i ≤ ln) → Sep w [rowOf encI ra5 rc5 3 1 l, box b1 [.string nm, .int .i64 st, .int .i64 ln, .bool mo, .bool sg, .int .i64 num, .int .i64 off, .int .i64 den, .int .i64 low, .int .i64 high] 23] w47 → (ln - i).toNat = mm_ → J Try.prog 4 194 R K4_197 [(81, .int .i64 i), (80, .int .i64 ((l.length : Int) - 1)), (3, .slice ra5 l.length rc5), (1, .pointer (some ⟨b1, 0, none⟩))] w47 := by
                    intro mm4
                    induction mm4 using Nat.strongRecOn with
                    | _ mm4 ih4 =>
                    intro i w47 h0 h1 S47 hm4
                    have hr2 : i + 1 < ln → _ := fun h => hrel (i + 1) (by omega) h
                    refine J.run 5 K4_198 [(82, .bool (decide (i < ((l.length : Int) - 1)))), (81, .int .i64 i), (80, .int .i64 ((l.length : Int) - 1)), (3, .slice ra5 l.length rc5), (1, .pointer (some ⟨b1, 0, none⟩))] w47 (by kernel_rfl) ?_
                    by_cases fk75 : i < ((l.length : Int) - 1)
                    · skip
                      refine J.head (.bool true) (congrArg Value.bool (decide_eq_true fk75)) ?_
                      have hr1 := hrel i h0 (by omega)
                      refine J.run 10 K4_199 [(6, .int .i64 i), (81, .int .i64 i), (80, .int .i64 ((l.length : Int) - 1)), (3, .slice ra5 l.length rc5), (1, .pointer (some ⟨b1, 0, none⟩))] w47 (by kernel_rfl) ?_
                      obtain ⟨p19, hp19⟩ := row1_addr (S47.nth 0 rfl) (show 0 < (l).length by first | omega | (simp; omega))
                      obtain ⟨p20, hp20⟩ := row1_addr (S47.nth 0 rfl) (show 0 < (l).length by first | omega | (simp; omega))
                      refine J.drawStill S47 11 Try.mixed (by kernel_rfl) (by kernel_rfl) (by kernel_rfl) ?_
                      intro w48 S48
                      refine SL.ok (by decide) (OK.run 84 (.slice ra5 l.length rc5) (by kernel_rfl)) ?_
                      refine SL.ok (by decide) (OK.run 85 (.int .i64 i) (by kernel_rfl)) ?_
                      refine SL.ok (by decide) (OK.index 86 28 1 ra5 p19 l.length (i).toNat i (p19.add (i).toNat) (by kernel_rfl) (by kernel_rfl) hp19 (by omega) (by first | omega | (simp; omega)) (by rw [Nat.mul_one])) ?_
                      refine SL.ok (by decide) (OK.ldCell 87 3 (p19.add (i).toNat) (.int .i64 (l.getD (i).toNat 0)) (by kernel_rfl) (by kernel_rfl) (row1_cell (g := (Value.int .i64)) S48 0 rfl hp19 0 (i).toNat (by first | omega | (simp; omega)))) ?_
                      refine SL.ok (by decide) (OK.run 88 (.slice ra5 l.length rc5) (by kernel_rfl)) ?_
                      refine SL.ok (by decide) (OK.run 89 (.int .i64 i) (by kernel_rfl)) ?_
                      refine SL.ok (by decide) (OK.run 90 (.int .i64 (IntKind.wrap .i64 (i + 1))) (by kernel_rfl)) ?_
                      refine SL.head (.int .i64 (i + 1)) (congrArg (Value.int .i64) (IntWalk.i64_in _ (by omega))) ?_
                      refine SL.ok (by decide) (OK.index 91 28 1 ra5 p20 l.length (i + 1).toNat (i + 1) (p20.add (i + 1).toNat) (by kernel_rfl) (by kernel_rfl) hp20 (by omega) (by first | omega | (simp; omega)) (by rw [Nat.mul_one])) ?_
                      refine SL.ok (by decide) (OK.ldCell 92 3 (p20.add (i + 1).toNat) (.int .i64 (l.getD (i + 1).toNat 0)) (by kernel_rfl) (by kernel_rfl) (row1_cell (g := (Value.int .i64)) S48 0 rfl hp20 0 (i + 1).toNat (by first | omega | (simp; omega)))) ?_
                      refine SL.ok (by decide) (OK.run 7 (.int .i64 (l.getD (i).toNat 0)) (by kernel_rfl)) ?_
                      refine SL.ok (by decide) (OK.run 8 (.int .i64 (l.getD (i + 1).toNat 0)) (by kernel_rfl)) ?_
                      refine SL.done ?_
                      refine TL.done (by kernel_rfl) ?_
                      refine J.run 0 (rRest K4_199) [(8, .int .i64 (l.getD (i + 1).toNat 0)), (7, .int .i64 (l.getD (i).toNat 0)), (81, .int .i64 i), (80, .int .i64 ((l.length : Int) - 1)), (3, .slice ra5 l.length rc5), (1, .pointer (some ⟨b1, 0, none⟩))] w48 (by kernel_rfl) ?_
                      refine J.run 5 K4_200 [(95, .int .i64 (IntKind.wrap .i64 (Int.tdiv (l.getD (i).toNat 0) 8))), (8, .int .i64 (l.getD (i + 1).toNat 0)), (7, .int .i64 (l.getD (i).toNat 0)), (81, .int .i64 i), (80, .int .i64 ((l.length : Int) - 1)), (3, .slice ra5 l.length rc5), (1, .pointer (some ⟨b1, 0, none⟩))] w48 (by kernel_rfl) ?_
                      refine J.head (.int .i64 ((l.getD (i).toNat 0) / 8)) (congrArg (Value.int .i64) (IntWalk.i64_quo _ _ (by omega))) ?_
                      refine J.run 2 K4_201 [(97, .int .i64 (IntKind.wrap .i64 (Int.tdiv (l.getD (i + 1).toNat 0) 8))), (95, .int .i64 ((l.getD (i).toNat 0) / 8)), (8, .int .i64 (l.getD (i + 1).toNat 0)), (7, .int .i64 (l.getD (i).toNat 0)), (81, .int .i64 i), (80, .int .i64 ((l.length : Int) - 1)), (3, .slice ra5 l.length rc5), (1, .pointer (some ⟨b1, 0, none⟩))] w48 (by kernel_rfl) ?_
                      refine J.head (.int .i64 ((l.getD (i + 1).toNat 0) / 8)) (congrArg (Value.int .i64) (IntWalk.i64_quo _ _ (by omega))) ?_
                      refine J.run 3 K4_202 [(93, .bool (((l.getD (i).toNat 0) / 8) == ((l.getD (i + 1).toNat 0) / 8))), (8, .int .i64 (l.getD (i + 1).toNat 0)), (7, .int .i64 (l.getD (i).toNat 0)), (81, .int .i64 i), (80, .int .i64 ((l.length : Int) - 1)), (3, .slice ra5 l.length rc5), (1, .pointer (some ⟨b1, 0, none⟩))] w48 (by kernel_rfl) ?_
                      by_cases fk76 : ((l.getD (i).toNat 0) / 8) = ((l.getD (i + 1).toNat 0) / 8)
                      · skip
                        refine J.head (.bool true) (congrArg Value.bool (beq_iff_eq.2 fk76)) ?_
                        refine J.run 6 K4_203 [(101, .int .i64 (IntKind.wrap .i64 ((l.getD (i).toNat 0) + 1))), (99, .int .i64 (l.getD (i + 1).toNat 0)), (81, .int .i64 i), (80, .int .i64 ((l.length : Int) - 1)), (3, .slice ra5 l.length rc5), (1, .pointer (some ⟨b1, 0, none⟩))] w48 (by kernel_rfl) ?_
                        refine J.head (.int .i64 ((l.getD (i).toNat 0) + 1)) (congrArg (Value.int .i64) (IntWalk.i64_in _ (by omega))) ?_
                        refine J.run 2 K4_204 [(102, .bool ((l.getD (i + 1).toNat 0) != ((l.getD (i).toNat 0) + 1))), (81, .int .i64 i), (80, .int .i64 ((l.length : Int) - 1)), (3, .slice ra5 l.length rc5), (1, .pointer (some ⟨b1, 0, none⟩))] w48 (by kernel_rfl) ?_
                        by_cases fk77 : (l.getD (i + 1).toNat 0) = ((l.getD (i).toNat 0) + 1)
                        · skip
                          refine J.head (.bool false) (congrArg Value.bool (bne_eq_false_iff_eq.2 fk77)) ?_
                          refine J.run 6 K4_205 [(127, .int .i64 (IntKind.wrap .i64 (i + 1))), (80, .int .i64 ((l.length : Int) - 1)), (3, .slice ra5 l.length rc5), (1, .pointer (some ⟨b1, 0, none⟩))] w48 (by kernel_rfl) ?_
                          refine J.head (.int .i64 (i + 1)) (congrArg (Value.int .i64) (IntWalk.i64_in _ (by omega))) ?_
                          refine J.run 3 K4_197 [(81, .int .i64 (i + 1)), (80, .int .i64 ((l.length : Int) - 1)), (3, .slice ra5 l.length rc5), (1, .pointer (some ⟨b1, 0, none⟩))] w48 (by kernel_rfl) ?_
                          refine J.run 0 K4_197 [(81, .int .i64 (i + 1)), (80, .int .i64 ((l.length : Int) - 1)), (3, .slice ra5 l.length rc5), (1, .pointer (some ⟨b1, 0, none⟩))] w48 (by kernel_rfl) ?_
                          exact ih4 _ (show (ln - (i + 1)).toNat < mm4 from by omega) (i + 1) w48 (by omega) (by omega) S48 rfl
                        · skip
                          refine J.head (.bool true) (congrArg Value.bool (bne_iff_ne.2 fk77)) ?_
                          refine J.run 5 K4_206 [(2, .bool false)] w48 (by kernel_rfl) ?_
                          refine J.ret Try.f4 [.bool false] Try.func4 ⟨by kernel_rfl, trivial⟩ ?_
                          refine hR _ _ ?_
                          exfalso
                          omega
                      · skip
                        refine J.head (.bool false) (congrArg Value.bool (beq_eq_false_iff_ne.2 fk76)) ?_
                        refine J.run 4 K4_207 [(104, .pointer (some ⟨b1, 3, none⟩)), (8, .int .i64 (l.getD (i + 1).toNat 0)), (7, .int .i64 (l.getD (i).toNat 0)), (81, .int .i64 i), (80, .int .i64 ((l.length : Int) - 1)), (3, .slice ra5 l.length rc5), (1, .pointer (some ⟨b1, 0, none⟩))] w48 (by kernel_rfl) ?_
                        refine J.ok (OK.ldBox S48 1 105 4 3 (.bool mo) (by kernel_rfl) rfl (by kernel_rfl)) ?_
                        refine J.run 2 K4_208 [(103, .bool mo), (8, .int .i64 (l.getD (i + 1).toNat 0)), (7, .int .i64 (l.getD (i).toNat 0)), (81, .int .i64 i), (80, .int .i64 ((l.length : Int) - 1)), (3, .slice ra5 l.length rc5), (1, .pointer (some ⟨b1, 0, none⟩))] w48 (by kernel_rfl) ?_
                        refine J.head (.bool false) (congrArg Value.bool fk2) ?_
                        refine J.run 6 K4_209 [(125, .int .i64 (IntKind.wrap .i64 ((l.getD (i).toNat 0) + 1))), (123, .int .i64 (l.getD (i + 1).toNat 0)), (81, .int .i64 i), (80, .int .i64 ((l.length : Int) - 1)), (3, .slice ra5 l.length rc5), (1, .pointer (some ⟨b1, 0, none⟩))] w48 (by kernel_rfl) ?_
                        refine J.head (.int .i64 ((l.getD (i).toNat 0) + 1)) (congrArg (Value.int .i64) (IntWalk.i64_in _ (by omega))) ?_
                        refine J.run 3 K4_210 [(122, .bool ((l.getD (i + 1).toNat 0) != ((l.getD (i).toNat 0) + 1))), (81, .int .i64 i), (80, .int .i64 ((l.length : Int) - 1)), (3, .slice ra5 l.length rc5), (1, .pointer (some ⟨b1, 0, none⟩))] w48 (by kernel_rfl) ?_
                        by_cases fk79 : (l.getD (i + 1).toNat 0) = ((l.getD (i).toNat 0) + 1)
                        · skip
                          refine J.head (.bool false) (congrArg Value.bool (bne_eq_false_iff_eq.2 fk79)) ?_
                          refine J.run 6 K4_211 [(127, .int .i64 (IntKind.wrap .i64 (i + 1))), (80, .int .i64 ((l.length : Int) - 1)), (3, .slice ra5 l.length rc5), (1, .pointer (some ⟨b1, 0, none⟩))] w48 (by kernel_rfl) ?_
                          refine J.head (.int .i64 (i + 1)) (congrArg (Value.int .i64) (IntWalk.i64_in _ (by omega))) ?_
                          refine J.run 3 K4_197 [(81, .int .i64 (i + 1)), (80, .int .i64 ((l.length : Int) - 1)), (3, .slice ra5 l.length rc5), (1, .pointer (some ⟨b1, 0, none⟩))] w48 (by kernel_rfl) ?_
                          refine J.run 0 K4_197 [(81, .int .i64 (i + 1)), (80, .int .i64 ((l.length : Int) - 1)), (3, .slice ra5 l.length rc5), (1, .pointer (some ⟨b1, 0, none⟩))] w48 (by kernel_rfl) ?_
                          exact ih4 _ (show (ln - (i + 1)).toNat < mm4 from by omega) (i + 1) w48 (by omega) (by omega) S48 rfl
                        · skip
                          refine J.head (.bool true) (congrArg Value.bool (bne_iff_ne.2 fk79)) ?_
                          refine J.run 5 K4_212 [(2, .bool false)] w48 (by kernel_rfl) ?_
                          refine J.ret Try.f4 [.bool false] Try.func4 ⟨by kernel_rfl, trivial⟩ ?_
                          refine hR _ _ ?_
                          exfalso
                          omega
                    · skip
                      refine J.head (.bool false) (congrArg Value.bool (decide_eq_false fk75)) ?_
                      refine J.run 6 K4_213 [(128, .pointer (some ⟨b1, 3, none⟩)), (3, .slice ra5 l.length rc5), (1, .pointer (some ⟨b1, 0, none⟩))] w47 (by kernel_rfl) ?_
                      refine J.ok (OK.ldBox S47 1 129 4 3 (.bool mo) (by kernel_rfl) rfl (by kernel_rfl)) ?_
                      refine J.run 1 K4_214 [(129, .bool mo), (3, .slice ra5 l.length rc5), (1, .pointer (some ⟨b1, 0, none⟩))] w47 (by kernel_rfl) ?_
                      refine J.head (.bool false) (congrArg Value.bool fk2) ?_
                      refine J.run 2 K4_215 [(3, .slice ra5 l.length rc5), (1, .pointer (some ⟨b1, 0, none⟩))] w47 (by kernel_rfl) ?_
                      obtain ⟨p21, hp21⟩ := row1_addr (S47.nth 0 rfl) (show 0 < (l).length by first | omega | (simp; omega))
                      refine J.drawStill S47 6 Try.mixed (by kernel_rfl) (by kernel_rfl) (by kernel_rfl) ?_
                      intro w49 S49
                      refine SL.ok (by decide) (OK.run 139 (.slice ra5 l.length rc5) (by kernel_rfl)) ?_
                      refine SL.ok (by decide) (OK.index 140 28 1 ra5 p21 l.length 0 0 (p21.add 0) (by kernel_rfl) (by kernel_rfl) hp21 (by omega) (by first | omega | (simp; omega)) (by rw [Nat.mul_one])) ?_
                      refine SL.ok (by decide) (OK.ldCell 141 3 (p21.add 0) (.int .i64 (l.getD 0 0)) (by kernel_rfl) (by kernel_rfl) (row1_cell (g := (Value.int .i64)) S49 0 rfl hp21 0 0 (by first | omega | (simp; omega)))) ?_
                      refine SL.ok (by decide) (OK.run 142 (.pointer (some ⟨b1, 1, none⟩)) (by kernel_rfl)) ?_
                      refine SL.ok (by decide) (OK.ldBox S49 1 143 3 1 (.int .i64 st) (by kernel_rfl) rfl (by kernel_rfl)) ?_
                      refine SL.ok (by decide) (OK.run 144 (.bool ((l.getD 0 0) != st)) (by kernel_rfl)) ?_
                      refine SL.done ?_
                      refine TL.done (by kernel_rfl) ?_
                      refine J.run 0 (rRest K4_215) [(144, .bool ((l.getD 0 0) != st)), (3, .slice ra5 l.length rc5), (1, .pointer (some ⟨b1, 0, none⟩))] w49 (by kernel_rfl) ?_
                      by_cases fk81 : (l.getD 0 0) = st
                      · skip
                        refine J.head (.bool false) (congrArg Value.bool (bne_eq_false_iff_eq.2 fk81)) ?_
                        refine J.run 4 K4_216 [(3, .slice ra5 l.length rc5), (1, .pointer (some ⟨b1, 0, none⟩))] w49 (by kernel_rfl) ?_
                        refine J.ok (OK.ldBox S49 1 145 23 0 (.agg #[.string nm, .int .i64 st, .int .i64 ln, .bool mo, .bool sg, .int .i64 num, .int .i64 off, .int .i64 den, .int .i64 low, .int .i64 high]) (by kernel_rfl) rfl (by kernel_rfl)) ?_
                        refine J.new S49 9 [.string ByteArray.empty, .int .i64 0, .int .i64 0, .bool false, .bool false, .int .i64 0, .int .i64 0, .int .i64 0, .int .i64 0, .int .i64 0] 23 (by kernel_rfl) ?_
                        intro b5 w50 S50
                        refine J.stBox S50 0 23 0 (.agg #[.string nm, .int .i64 st, .int .i64 ln, .bool mo, .bool sg, .int .i64 num, .int .i64 off, .int .i64 den, .int .i64 low, .int .i64 high]) [.string nm, .int .i64 st, .int .i64 ln, .bool mo, .bool sg, .int .i64 num, .int .i64 off, .int .i64 den, .int .i64 low, .int .i64 high] [box b5 [.string nm, .int .i64 st, .int .i64 ln, .bool mo, .bool sg, .int .i64 num, .int .i64 off, .int .i64 den, .int .i64 low, .int .i64 high] 23, rowOf encI ra5 rc5 3 1 l, box b1 [.string nm, .int .i64 st, .int .i64 ln, .bool mo, .bool sg, .int .i64 num, .int .i64 off, .int .i64 den, .int .i64 low, .int .i64 high] 23] (by kernel_rfl) rfl (by kernel_rfl) (by kernel_rfl) rfl ?_
                        intro w51 S51
                        refine J.run 3 K4_217 [(9, .pointer (some ⟨b5, 0, none⟩)), (3, .slice ra5 l.length rc5), (1, .pointer (some ⟨b1, 0, none⟩))] w51 (by kernel_rfl) ?_
                        by_cases fk82 : ((l.getD 0 0) / 8) = ((l.getD ((l.length : Int) - 1).toNat 0) / 8)
                        · skip
                          by_cases fk83 : (l.getD 0 0) ≥ 0
                          · skip
                            obtain ⟨p22, hp22⟩ := row1_addr (S51.nth 1 rfl) (show 0 < (l).length by first | omega | (simp; omega))
                            refine J.drawStill S51 27 Try.mixed (by kernel_rfl) (by kernel_rfl) (by kernel_rfl) ?_
                            intro w52 S52
                            refine SL.ok (by decide) (OK.run 146 (.slice ra5 l.length rc5) (by kernel_rfl)) ?_
                            refine SL.ok (by decide) (OK.index 147 28 1 ra5 p21 l.length 0 0 (p21.add 0) (by kernel_rfl) (by kernel_rfl) hp21 (by omega) (by first | omega | (simp; omega)) (by rw [Nat.mul_one])) ?_
                            refine SL.ok (by decide) (OK.ldCell 148 3 (p21.add 0) (.int .i64 (l.getD 0 0)) (by kernel_rfl) (by kernel_rfl) (row1_cell (g := (Value.int .i64)) S52 1 rfl hp21 0 0 (by first | omega | (simp; omega)))) ?_
                            refine SL.ok (by decide) (OK.run 149 (.int .i64 (IntKind.wrap .i64 (Int.tdiv (l.getD 0 0) 8))) (by kernel_rfl)) ?_
                            refine SL.head (.int .i64 ((l.getD 0 0) / 8)) (congrArg (Value.int .i64) (IntWalk.i64_quo _ _ (by omega))) ?_
                            refine SL.ok (by decide) (OK.run 150 (.slice ra5 l.length rc5) (by kernel_rfl)) ?_
                            refine SL.ok (by decide) (OK.run 151 (.slice ra5 l.length rc5) (by kernel_rfl)) ?_
                            refine SL.ok (by decide) (OK.run 152 (.int .i64 (l.length : Int)) (by kernel_rfl)) ?_
                            refine SL.ok (by decide) (OK.run 153 (.int .i64 (IntKind.wrap .i64 ((l.length : Int) - 1))) (by kernel_rfl)) ?_
                            refine SL.head (.int .i64 ((l.length : Int) - 1)) (congrArg (Value.int .i64) (IntWalk.i64_in _ (by omega))) ?_
                            refine SL.ok (by decide) (OK.index 154 28 1 ra5 p22 l.length ((l.length : Int) - 1).toNat ((l.length : Int) - 1) (p22.add ((l.length : Int) - 1).toNat) (by kernel_rfl) (by kernel_rfl) hp22 (by omega) (by first | omega | (simp; omega)) (by rw [Nat.mul_one])) ?_
                            refine SL.ok (by decide) (OK.ldCell 155 3 (p22.add ((l.length : Int) - 1).toNat) (.int .i64 (l.getD ((l.length : Int) - 1).toNat 0)) (by kernel_rfl) (by kernel_rfl) (row1_cell (g := (Value.int .i64)) S52 1 rfl hp22 0 ((l.length : Int) - 1).toNat (by first | omega | (simp; omega)))) ?_
                            refine SL.ok (by decide) (OK.run 156 (.int .i64 (IntKind.wrap .i64 (Int.tdiv (l.getD ((l.length : Int) - 1).toNat 0) 8))) (by kernel_rfl)) ?_
                            refine SL.head (.int .i64 ((l.getD ((l.length : Int) - 1).toNat 0) / 8)) (congrArg (Value.int .i64) (IntWalk.i64_quo _ _ (by omega))) ?_
                            refine SL.ok (by decide) (OK.run 157 (.bool (((l.getD 0 0) / 8) == ((l.getD ((l.length : Int) - 1).toNat 0) / 8))) (by kernel_rfl)) ?_
                            refine SL.head (.bool true) (congrArg Value.bool (beq_iff_eq.2 fk82)) ?_
                            refine SL.ok (by decide) (OK.run 158 (.bool true) (by kernel_rfl)) ?_
                            refine SL.ok (by decide) (OK.run 159 (.slice ra5 l.length rc5) (by kernel_rfl)) ?_
                            refine SL.ok (by decide) (OK.index 160 28 1 ra5 p21 l.length 0 0 (p21.add 0) (by kernel_rfl) (by kernel_rfl) hp21 (by omega) (by first | omega | (simp; omega)) (by rw [Nat.mul_one])) ?_
                            refine SL.ok (by decide) (OK.ldCell 161 3 (p21.add 0) (.int .i64 (l.getD 0 0)) (by kernel_rfl) (by kernel_rfl) (row1_cell (g := (Value.int .i64)) S52 1 rfl hp21 0 0 (by first | omega | (simp; omega)))) ?_
                            refine SL.ok (by decide) (OK.run 162 (.bool (decide ((l.getD 0 0) ≥ 0))) (by kernel_rfl)) ?_
                            refine SL.head (.bool true) (congrArg Value.bool (decide_eq_true fk83)) ?_
                            refine SL.ok (by decide) (OK.run 163 (.bool true) (by kernel_rfl)) ?_
                            refine SL.ok (by decide) (OK.run 164 (.bool true) (by kernel_rfl)) ?_
                            refine SL.ok (by decide) (OK.run 165 (.slice ra5 l.length rc5) (by kernel_rfl)) ?_
                            refine SL.ok (by decide) (OK.run 166 (.slice ra5 l.length rc5) (by kernel_rfl)) ?_
                            refine SL.ok (by decide) (OK.run 167 (.int .i64 (l.length : Int)) (by kernel_rfl)) ?_
                            refine SL.ok (by decide) (OK.run 168 (.int .i64 (IntKind.wrap .i64 ((l.length : Int) - 1))) (by kernel_rfl)) ?_
                            refine SL.head (.int .i64 ((l.length : Int) - 1)) (congrArg (Value.int .i64) (IntWalk.i64_in _ (by omega))) ?_
                            refine SL.ok (by decide) (OK.index 169 28 1 ra5 p22 l.length ((l.length : Int) - 1).toNat ((l.length : Int) - 1) (p22.add ((l.length : Int) - 1).toNat) (by kernel_rfl) (by kernel_rfl) hp22 (by omega) (by first | omega | (simp; omega)) (by rw [Nat.mul_one])) ?_
                            refine SL.ok (by decide) (OK.ldCell 170 3 (p22.add ((l.length : Int) - 1).toNat) (.int .i64 (l.getD ((l.length : Int) - 1).toNat 0)) (by kernel_rfl) (by kernel_rfl) (row1_cell (g := (Value.int .i64)) S52 1 rfl hp22 0 ((l.length : Int) - 1).toNat (by first | omega | (simp; omega)))) ?_
                            refine SL.ok (by decide) (OK.run 171 (.bool (decide ((l.getD ((l.length : Int) - 1).toNat 0) < 64))) (by kernel_rfl)) ?_
                            refine SL.ok (by decide) (OK.run 172 (.bool (decide ((l.getD ((l.length : Int) - 1).toNat 0) < 64))) (by kernel_rfl)) ?_
                            refine SL.done ?_
                            refine TL.done (by kernel_rfl) ?_
                            refine J.run 0 (rRest K4_217) [(172, .bool (decide ((l.getD ((l.length : Int) - 1).toNat 0) < 64))), (9, .pointer (some ⟨b5, 0, none⟩)), (3, .slice ra5 l.length rc5), (1, .pointer (some ⟨b1, 0, none⟩))] w52 (by kernel_rfl) ?_
                            by_cases fk84 : (l.getD ((l.length : Int) - 1).toNat 0) < 64
                            · skip
                              refine J.head (.bool true) (congrArg Value.bool (decide_eq_true fk84)) ?_
                              refine J.run 4 K4_218 [(173, .pointer (some ⟨b1, 3, none⟩)), (9, .pointer (some ⟨b5, 0, none⟩)), (3, .slice ra5 l.length rc5), (1, .pointer (some ⟨b1, 0, none⟩))] w52 (by kernel_rfl) ?_
                              refine J.ok (OK.ldBox S52 2 174 4 3 (.bool mo) (by kernel_rfl) rfl (by kernel_rfl)) ?_
                              refine J.run 2 K4_219 [(176, .pointer (some ⟨b5, 3, none⟩)), (175, .bool (!mo)), (9, .pointer (some ⟨b5, 0, none⟩)), (3, .slice ra5 l.length rc5), (1, .pointer (some ⟨b1, 0, none⟩))] w52 (by kernel_rfl) ?_
                              refine J.stBox S52 0 4 3 (.bool (!mo)) [.string nm, .int .i64 st, .int .i64 ln, .bool (!mo), .bool sg, .int .i64 num, .int .i64 off, .int .i64 den, .int .i64 low, .int .i64 high] [box b5 [.string nm, .int .i64 st, .int .i64 ln, .bool (!mo), .bool sg, .int .i64 num, .int .i64 off, .int .i64 den, .int .i64 low, .int .i64 high] 23, rowOf encI ra5 rc5 3 1 l, box b1 [.string nm, .int .i64 st, .int .i64 ln, .bool mo, .bool sg, .int .i64 num, .int .i64 off, .int .i64 den, .int .i64 low, .int .i64 high] 23] (by kernel_rfl) rfl (by kernel_rfl) (by kernel_rfl) rfl ?_
                              intro w53 S53
                              refine J.run 7 K4_220 [(180, .int .i64 (IntKind.wrap .i64 ((l.length : Int) - 1))), (177, .slice ra5 l.length rc5), (9, .pointer (some ⟨b5, 0, none⟩)), (3, .slice ra5 l.length rc5), (1, .pointer (some ⟨b1, 0, none⟩))] w53 (by kernel_rfl) ?_
                              refine J.head (.int .i64 ((l.length : Int) - 1)) (congrArg (Value.int .i64) (IntWalk.i64_in _ (by omega))) ?_
                              refine J.ok (OK.index 181 28 1 ra5 p22 l.length ((l.length : Int) - 1).toNat ((l.length : Int) - 1) (p22.add ((l.length : Int) - 1).toNat) (by kernel_rfl) (by kernel_rfl) hp22 (by omega) (by first | omega | (simp; omega)) (by rw [Nat.mul_one])) ?_
                              refine J.ok (OK.ldCell 182 3 (p22.add ((l.length : Int) - 1).toNat) (.int .i64 (l.getD ((l.length : Int) - 1).toNat 0)) (by kernel_rfl) (by kernel_rfl) (row1_cell (g := (Value.int .i64)) S53 1 rfl hp22 0 ((l.length : Int) - 1).toNat (by first | omega | (simp; omega)))) ?_
                              refine J.run 1 K4_221 [(183, .pointer (some ⟨b5, 1, none⟩)), (182, .int .i64 (l.getD ((l.length : Int) - 1).toNat 0)), (9, .pointer (some ⟨b5, 0, none⟩)), (3, .slice ra5 l.length rc5), (1, .pointer (some ⟨b1, 0, none⟩))] w53 (by kernel_rfl) ?_
                              refine J.stBox S53 0 3 1 (.int .i64 (l.getD ((l.length : Int) - 1).toNat 0)) [.string nm, .int .i64 (l.getD ((l.length : Int) - 1).toNat 0), .int .i64 ln, .bool (!mo), .bool sg, .int .i64 num, .int .i64 off, .int .i64 den, .int .i64 low, .int .i64 high] [box b5 [.string nm, .int .i64 (l.getD ((l.length : Int) - 1).toNat 0), .int .i64 ln, .bool (!mo), .bool sg, .int .i64 num, .int .i64 off, .int .i64 den, .int .i64 low, .int .i64 high] 23, rowOf encI ra5 rc5 3 1 l, box b1 [.string nm, .int .i64 st, .int .i64 ln, .bool mo, .bool sg, .int .i64 num, .int .i64 off, .int .i64 den, .int .i64 low, .int .i64 high] 23] (by kernel_rfl) rfl (by kernel_rfl) (by kernel_rfl) rfl ?_
                              intro w54 S54
                              refine J.run 5 K4_222 [(184, .pointer (some ⟨b1, 3, none⟩)), (9, .pointer (some ⟨b5, 0, none⟩)), (3, .slice ra5 l.length rc5)] w54 (by kernel_rfl) ?_
                              refine J.ok (OK.ldBox S54 2 185 4 3 (.bool mo) (by kernel_rfl) rfl (by kernel_rfl)) ?_
                              refine J.run 1 K4_223 [(185, .bool mo), (9, .pointer (some ⟨b5, 0, none⟩)), (3, .slice ra5 l.length rc5)] w54 (by kernel_rfl) ?_
                              refine J.head (.bool false) (congrArg Value.bool fk2) ?_
                              refine J.run 4 K4_224 [(9, .pointer (some ⟨b5, 0, none⟩)), (3, .slice ra5 l.length rc5)] w54 (by kernel_rfl) ?_
                              refine J.ok (OK.ldBox S54 0 190 23 0 (.agg #[.string nm, .int .i64 (l.getD ((l.length : Int) - 1).toNat 0), .int .i64 ln, .bool (!mo), .bool sg, .int .i64 num, .int .i64 off, .int .i64 den, .int .i64 low, .int .i64 high]) (by kernel_rfl) rfl (by kernel_rfl)) ?_
                              refine J.callF 191 11 #[.agg #[.string nm, .int .i64 (l.getD ((l.length : Int) - 1).toNat 0), .int .i64 ln, .bool (!mo), .bool sg, .int .i64 num, .int .i64 off, .int .i64 den, .int .i64 low, .int .i64 high]] hb11 (by kernel_rfl) (bits_any nm (l.getD ((l.length : Int) - 1).toNat 0) ln (!mo) sg num off den low high _ (by first | omega | decide)) ?_
                              rintro _ w55 ⟨ra7, rc7, rfl, T14⟩
                              have S55 : Sep w [rowOf encI ra7 rc7 3 1 (bitsF nm (l.getD ((l.length : Int) - 1).toNat 0) ln (!mo) sg num off den low high), box b5 [.string nm, .int .i64 (l.getD ((l.length : Int) - 1).toNat 0), .int .i64 ln, .bool (!mo), .bool sg, .int .i64 num, .int .i64 off, .int .i64 den, .int .i64 low, .int .i64 high] 23, rowOf encI ra5 rc5 3 1 l, box b1 [.string nm, .int .i64 st, .int .i64 ln, .bool mo, .bool sg, .int .i64 num, .int .i64 off, .int .i64 den, .int .i64 low, .int .i64 high] 23] w55 := S54.trans T14
                              clear T14 S54
                              refine J.run 1 K4_225 [(192, .slice ra5 l.length rc5), (191, .slice ra7 ((bitsF nm (l.getD ((l.length : Int) - 1).toNat 0) ln (!mo) sg num off den low high).length) rc7)] w55 (by kernel_rfl) ?_
                              have := rowOf_len (S55.nth 0 rfl)
                              have := rowOf_len (S55.nth 2 rfl)
                              refine J.callF 193 10 #[.slice ra7 ((bitsF nm (l.getD ((l.length : Int) - 1).toNat 0) ln (!mo) sg num off den low high).length) rc7, .slice ra5 l.length rc5] hb10 (by kernel_rfl) (equal_any ra7 ((bitsF nm (l.getD ((l.length : Int) - 1).toNat 0) ln (!mo) sg num off den low high).length) rc7 (bitsF nm (l.getD ((l.length : Int) - 1).toNat 0) ln (!mo) sg num off den low high) ra5 l.length rc5 l _ ((row1_ones (S55.nth 0 rfl) ((bitsF nm (l.getD ((l.length : Int) - 1).toNat 0) ln (!mo) sg num off den low high).length) (by first | rfl | omega | simp))) ((row1_ones (S55.nth 2 rfl) l.length (by first | rfl | omega | simp))) (by first | omega | (simp; omega))) ?_
                              rintro _ w56 ⟨rfl, T15⟩
                              have S56 : Sep w [rowOf encI ra7 rc7 3 1 (bitsF nm (l.getD ((l.length : Int) - 1).toNat 0) ln (!mo) sg num off den low high), box b5 [.string nm, .int .i64 (l.getD ((l.length : Int) - 1).toNat 0), .int .i64 ln, .bool (!mo), .bool sg, .int .i64 num, .int .i64 off, .int .i64 den, .int .i64 low, .int .i64 high] 23, rowOf encI ra5 rc5 3 1 l, box b1 [.string nm, .int .i64 st, .int .i64 ln, .bool mo, .bool sg, .int .i64 num, .int .i64 off, .int .i64 den, .int .i64 low, .int .i64 high] 23] w56 := S55.trans T15
                              clear T15 S55
                              refine J.run 2 K4_226 [(2, .bool ((bitsF nm (l.getD ((l.length : Int) - 1).toNat 0) ln (!mo) sg num off den low high) == l))] w56 (by kernel_rfl) ?_
                              refine J.ret Try.f4 [.bool ((bitsF nm (l.getD ((l.length : Int) - 1).toNat 0) ln (!mo) sg num off den low high) == l)] Try.func4 ⟨by kernel_rfl, trivial⟩ ?_
                              refine hR _ _ ?_
                              have fk86 : ((bitsF nm (l.getD ((l.length : Int) - 1).toNat 0) ln (!mo) sg num off den low high) == l) = true := by rw [other_same fk48 hl (by rw [show (ln - 1).toNat = ((l.length : Int) - 1).toNat by omega]; omega) (by simp [fk2]) (by simp only [fk2, if_true, if_false, Bool.false_eq_true]; try rw [show (ln - 1).toNat = ((l.length : Int) - 1).toNat by omega]) (by omega)]; simp
                              exact ⟨congrArg Value.bool fk86, S56.nil⟩
                            · skip
                              refine J.head (.bool false) (congrArg Value.bool (decide_eq_false fk84)) ?_
                              refine J.run 6 K4_227 [(2, .bool true)] w52 (by kernel_rfl) ?_
                              refine J.ret Try.f4 [.bool true] Try.func4 ⟨by kernel_rfl, trivial⟩ ?_
                              refine hR _ _ ?_
                              exact ⟨rfl, S52.nil⟩
                          · skip
                            obtain ⟨p23, hp23⟩ := row1_addr (S51.nth 1 rfl) (show 0 < (l).length by first | omega | (simp; omega))
                            refine J.drawStill S51 27 Try.mixed (by kernel_rfl) (by kernel_rfl) (by kernel_rfl) ?_
                            intro w57 S57
                            refine SL.ok (by decide) (OK.run 146 (.slice ra5 l.length rc5) (by kernel_rfl)) ?_
                            refine SL.ok (by decide) (OK.index 147 28 1 ra5 p21 l.length 0 0 (p21.add 0) (by kernel_rfl) (by kernel_rfl) hp21 (by omega) (by first | omega | (simp; omega)) (by rw [Nat.mul_one])) ?_
                            refine SL.ok (by decide) (OK.ldCell 148 3 (p21.add 0) (.int .i64 (l.getD 0 0)) (by kernel_rfl) (by kernel_rfl) (row1_cell (g := (Value.int .i64)) S57 1 rfl hp21 0 0 (by first | omega | (simp; omega)))) ?_
                            refine SL.ok (by decide) (OK.run 149 (.int .i64 (IntKind.wrap .i64 (Int.tdiv (l.getD 0 0) 8))) (by kernel_rfl)) ?_
                            refine SL.head (.int .i64 ((l.getD 0 0) / 8)) (congrArg (Value.int .i64) (IntWalk.i64_quo _ _ (by omega))) ?_
                            refine SL.ok (by decide) (OK.run 150 (.slice ra5 l.length rc5) (by kernel_rfl)) ?_
                            refine SL.ok (by decide) (OK.run 151 (.slice ra5 l.length rc5) (by kernel_rfl)) ?_
                            refine SL.ok (by decide) (OK.run 152 (.int .i64 (l.length : Int)) (by kernel_rfl)) ?_
                            refine SL.ok (by decide) (OK.run 153 (.int .i64 (IntKind.wrap .i64 ((l.length : Int) - 1))) (by kernel_rfl)) ?_
                            refine SL.head (.int .i64 ((l.length : Int) - 1)) (congrArg (Value.int .i64) (IntWalk.i64_in _ (by omega))) ?_
                            refine SL.ok (by decide) (OK.index 154 28 1 ra5 p23 l.length ((l.length : Int) - 1).toNat ((l.length : Int) - 1) (p23.add ((l.length : Int) - 1).toNat) (by kernel_rfl) (by kernel_rfl) hp23 (by omega) (by first | omega | (simp; omega)) (by rw [Nat.mul_one])) ?_
                            refine SL.ok (by decide) (OK.ldCell 155 3 (p23.add ((l.length : Int) - 1).toNat) (.int .i64 (l.getD ((l.length : Int) - 1).toNat 0)) (by kernel_rfl) (by kernel_rfl) (row1_cell (g := (Value.int .i64)) S57 1 rfl hp23 0 ((l.length : Int) - 1).toNat (by first | omega | (simp; omega)))) ?_
                            refine SL.ok (by decide) (OK.run 156 (.int .i64 (IntKind.wrap .i64 (Int.tdiv (l.getD ((l.length : Int) - 1).toNat 0) 8))) (by kernel_rfl)) ?_
                            refine SL.head (.int .i64 ((l.getD ((l.length : Int) - 1).toNat 0) / 8)) (congrArg (Value.int .i64) (IntWalk.i64_quo _ _ (by omega))) ?_
                            refine SL.ok (by decide) (OK.run 157 (.bool (((l.getD 0 0) / 8) == ((l.getD ((l.length : Int) - 1).toNat 0) / 8))) (by kernel_rfl)) ?_
                            refine SL.head (.bool true) (congrArg Value.bool (beq_iff_eq.2 fk82)) ?_
                            refine SL.ok (by decide) (OK.run 158 (.bool true) (by kernel_rfl)) ?_
                            refine SL.ok (by decide) (OK.run 159 (.slice ra5 l.length rc5) (by kernel_rfl)) ?_
                            refine SL.ok (by decide) (OK.index 160 28 1 ra5 p21 l.length 0 0 (p21.add 0) (by kernel_rfl) (by kernel_rfl) hp21 (by omega) (by first | omega | (simp; omega)) (by rw [Nat.mul_one])) ?_
                            refine SL.ok (by decide) (OK.ldCell 161 3 (p21.add 0) (.int .i64 (l.getD 0 0)) (by kernel_rfl) (by kernel_rfl) (row1_cell (g := (Value.int .i64)) S57 1 rfl hp21 0 0 (by first | omega | (simp; omega)))) ?_
                            refine SL.ok (by decide) (OK.run 162 (.bool (decide ((l.getD 0 0) ≥ 0))) (by kernel_rfl)) ?_
                            refine SL.head (.bool false) (congrArg Value.bool (decide_eq_false fk83)) ?_
                            refine SL.ok (by decide) (OK.run 163 (.bool false) (by kernel_rfl)) ?_
                            refine SL.ok (by decide) (OK.run 164 (.bool false) (by kernel_rfl)) ?_
                            refine SL.pass (d := some 165) (by decide) (by kernel_rfl) ?_
                            refine SL.pass (d := some 166) (by decide) (by kernel_rfl) ?_
                            refine SL.pass (d := some 167) (by decide) (by kernel_rfl) ?_
                            refine SL.pass (d := some 168) (by decide) (by kernel_rfl) ?_
                            refine SL.pass (d := some 169) (by decide) (by kernel_rfl) ?_
                            refine SL.pass (d := some 170) (by decide) (by kernel_rfl) ?_
                            refine SL.pass (d := some 171) (by decide) (by kernel_rfl) ?_
                            refine SL.ok (by decide) (OK.run 172 (.bool false) (by kernel_rfl)) ?_
                            refine SL.done ?_
                            refine TL.done (by kernel_rfl) ?_
                            refine J.run 0 (rRest K4_217) [(172, .bool false), (9, .pointer (some ⟨b5, 0, none⟩)), (3, .slice ra5 l.length rc5), (1, .pointer (some ⟨b1, 0, none⟩))] w57 (by kernel_rfl) ?_
                            refine J.run 6 K4_228 [(2, .bool true)] w57 (by kernel_rfl) ?_
                            refine J.ret Try.f4 [.bool true] Try.func4 ⟨by kernel_rfl, trivial⟩ ?_
                            refine hR _ _ ?_
                            exact ⟨rfl, S57.nil⟩
                        · skip
                          obtain ⟨p24, hp24⟩ := row1_addr (S51.nth 1 rfl) (show 0 < (l).length by first | omega | (simp; omega))
                          refine J.drawStill S51 27 Try.mixed (by kernel_rfl) (by kernel_rfl) (by kernel_rfl) ?_
                          intro w58 S58
                          refine SL.ok (by decide) (OK.run 146 (.slice ra5 l.length rc5) (by kernel_rfl)) ?_
                          refine SL.ok (by decide) (OK.index 147 28 1 ra5 p21 l.length 0 0 (p21.add 0) (by kernel_rfl) (by kernel_rfl) hp21 (by omega) (by first | omega | (simp; omega)) (by rw [Nat.mul_one])) ?_
                          refine SL.ok (by decide) (OK.ldCell 148 3 (p21.add 0) (.int .i64 (l.getD 0 0)) (by kernel_rfl) (by kernel_rfl) (row1_cell (g := (Value.int .i64)) S58 1 rfl hp21 0 0 (by first | omega | (simp; omega)))) ?_
                          refine SL.ok (by decide) (OK.run 149 (.int .i64 (IntKind.wrap .i64 (Int.tdiv (l.getD 0 0) 8))) (by kernel_rfl)) ?_
                          refine SL.head (.int .i64 ((l.getD 0 0) / 8)) (congrArg (Value.int .i64) (IntWalk.i64_quo _ _ (by omega))) ?_
                          refine SL.ok (by decide) (OK.run 150 (.slice ra5 l.length rc5) (by kernel_rfl)) ?_
                          refine SL.ok (by decide) (OK.run 151 (.slice ra5 l.length rc5) (by kernel_rfl)) ?_
                          refine SL.ok (by decide) (OK.run 152 (.int .i64 (l.length : Int)) (by kernel_rfl)) ?_
                          refine SL.ok (by decide) (OK.run 153 (.int .i64 (IntKind.wrap .i64 ((l.length : Int) - 1))) (by kernel_rfl)) ?_
                          refine SL.head (.int .i64 ((l.length : Int) - 1)) (congrArg (Value.int .i64) (IntWalk.i64_in _ (by omega))) ?_
                          refine SL.ok (by decide) (OK.index 154 28 1 ra5 p24 l.length ((l.length : Int) - 1).toNat ((l.length : Int) - 1) (p24.add ((l.length : Int) - 1).toNat) (by kernel_rfl) (by kernel_rfl) hp24 (by omega) (by first | omega | (simp; omega)) (by rw [Nat.mul_one])) ?_
                          refine SL.ok (by decide) (OK.ldCell 155 3 (p24.add ((l.length : Int) - 1).toNat) (.int .i64 (l.getD ((l.length : Int) - 1).toNat 0)) (by kernel_rfl) (by kernel_rfl) (row1_cell (g := (Value.int .i64)) S58 1 rfl hp24 0 ((l.length : Int) - 1).toNat (by first | omega | (simp; omega)))) ?_
                          refine SL.ok (by decide) (OK.run 156 (.int .i64 (IntKind.wrap .i64 (Int.tdiv (l.getD ((l.length : Int) - 1).toNat 0) 8))) (by kernel_rfl)) ?_
                          refine SL.head (.int .i64 ((l.getD ((l.length : Int) - 1).toNat 0) / 8)) (congrArg (Value.int .i64) (IntWalk.i64_quo _ _ (by omega))) ?_
                          refine SL.ok (by decide) (OK.run 157 (.bool (((l.getD 0 0) / 8) == ((l.getD ((l.length : Int) - 1).toNat 0) / 8))) (by kernel_rfl)) ?_
                          refine SL.head (.bool false) (congrArg Value.bool (beq_eq_false_iff_ne.2 fk82)) ?_
                          refine SL.ok (by decide) (OK.run 158 (.bool false) (by kernel_rfl)) ?_
                          refine SL.pass (d := some 159) (by decide) (by kernel_rfl) ?_
                          refine SL.pass (d := some 160) (by decide) (by kernel_rfl) ?_
                          refine SL.pass (d := some 161) (by decide) (by kernel_rfl) ?_
                          refine SL.pass (d := some 162) (by decide) (by kernel_rfl) ?_
                          refine SL.ok (by decide) (OK.run 163 (.bool false) (by kernel_rfl)) ?_
                          refine SL.ok (by decide) (OK.run 164 (.bool false) (by kernel_rfl)) ?_
                          refine SL.pass (d := some 165) (by decide) (by kernel_rfl) ?_
                          refine SL.pass (d := some 166) (by decide) (by kernel_rfl) ?_
                          refine SL.pass (d := some 167) (by decide) (by kernel_rfl) ?_
                          refine SL.pass (d := some 168) (by decide) (by kernel_rfl) ?_
                          refine SL.pass (d := some 169) (by decide) (by kernel_rfl) ?_
                          refine SL.pass (d := some 170) (by decide) (by kernel_rfl) ?_
                          refine SL.pass (d := some 171) (by decide) (by kernel_rfl) ?_
                          refine SL.ok (by decide) (OK.run 172 (.bool false) (by kernel_rfl)) ?_
                          refine SL.done ?_
                          refine TL.done (by kernel_rfl) ?_
                          refine J.run 0 (rRest K4_217) [(172, .bool false), (9, .pointer (some ⟨b5, 0, none⟩)), (3, .slice ra5 l.length rc5), (1, .pointer (some ⟨b1, 0, none⟩))] w58 (by kernel_rfl) ?_
                          refine J.run 6 K4_229 [(2, .bool true)] w58 (by kernel_rfl) ?_
                          refine J.ret Try.f4 [.bool true] Try.func4 ⟨by kernel_rfl, trivial⟩ ?_
                          refine hR _ _ ?_
                          exact ⟨rfl, S58.nil⟩
                      · skip
                        refine J.head (.bool true) (congrArg Value.bool (bne_iff_ne.2 fk81)) ?_
                        refine J.run 5 K4_230 [(2, .bool false)] w49 (by kernel_rfl) ?_
                        refine J.ret Try.f4 [.bool false] Try.func4 ⟨by kernel_rfl, trivial⟩ ?_
                        refine hR _ _ ?_
                        exfalso
                        omega
                  exact L4_4 _ 0 w34 (by omega) (by omega) S34 rfl
            · skip
              refine J.head (.bool true) (congrArg Value.bool (bne_iff_ne.2 fk72)) ?_
              refine J.run 17 K4_231 [(2, .bool false)] w34 (by kernel_rfl) ?_
              refine J.ret Try.f4 [.bool false] Try.func4 ⟨by kernel_rfl, trivial⟩ ?_
              refine hR _ _ ?_
              exfalso
              omega
        · skip
          refine J.head (.bool true) (congrArg Value.bool (bne_iff_ne.2 fk53)) ?_
          refine J.run 36 K4_232 [(2, .bool false)] w34 (by kernel_rfl) ?_
          refine J.ret Try.f4 [.bool false] Try.func4 ⟨by kernel_rfl, trivial⟩ ?_
          refine hR _ _ ?_
          exfalso
          omega
      · skip
        refine J.callF 17 11 #[.agg #[.string nm, .int .i64 st, .int .i64 ln, .bool mo, .bool sg, .int .i64 num, .int .i64 off, .int .i64 den, .int .i64 low, .int .i64 high]] hb11 (by kernel_rfl) (bits_any nm st ln mo sg num off den low high _ (by first | omega | decide)) ?_
        rintro _ w59 ⟨ra8, rc8, rfl, T16⟩
        have S59 : Sep w [rowOf encI ra8 rc8 3 1 (bitsF nm st ln mo sg num off den low high), box b1 [.string nm, .int .i64 st, .int .i64 ln, .bool mo, .bool sg, .int .i64 num, .int .i64 off, .int .i64 den, .int .i64 low, .int .i64 high] 23] w59 := S2.trans T16
        clear T16 S2
        obtain ⟨l, hl⟩ : ∃ x : List Int, x = bitsF nm st ln mo sg num off den low high := ⟨_, rfl⟩
        rw [← hl] at S59 ⊢
        have hll := bits_none fk48
        rw [← hl] at hll
        refine J.run 4 K4_233 [(3, .slice ra8 l.length rc8), (1, .pointer (some ⟨b1, 0, none⟩))] w59 (by kernel_rfl) ?_
        refine J.ok (OK.ldBox S59 1 19 23 0 (.agg #[.string nm, .int .i64 st, .int .i64 ln, .bool mo, .bool sg, .int .i64 num, .int .i64 off, .int .i64 den, .int .i64 low, .int .i64 high]) (by kernel_rfl) rfl (by kernel_rfl)) ?_
        refine J.callF 20 8 #[.agg #[.string nm, .int .i64 st, .int .i64 ln, .bool mo, .bool sg, .int .i64 num, .int .i64 off, .int .i64 den, .int .i64 low, .int .i64 high]] hb8 (by kernel_rfl) (limits_any nm st ln mo sg num off den low high _ (by omega)) ?_
        rintro _ w60 ⟨rfl, T17⟩
        have S60 : Sep w [rowOf encI ra8 rc8 3 1 l, box b1 [.string nm, .int .i64 st, .int .i64 ln, .bool mo, .bool sg, .int .i64 num, .int .i64 off, .int .i64 den, .int .i64 low, .int .i64 high] 23] w60 := S59.trans T17
        clear T17 S59
        refine J.head (.tuple #[.int .i64 0, .int .i64 0]) (by first | (simp only [limV, fk48, reduceCtorEq, ↓reduceIte]; done) | simp [limV, fk48]) ?_
        refine J.run 13 K4_234 [(25, .bool ((l.length : Int) == 0)), (5, .int .i64 0), (4, .int .i64 0), (3, .slice ra8 l.length rc8), (1, .pointer (some ⟨b1, 0, none⟩))] w60 (by kernel_rfl) ?_
        have fk88 : (l.length : Int) = 0 := by omega
        refine J.head (.bool true) (congrArg Value.bool (beq_iff_eq.2 fk88)) ?_
        refine J.run 11 K4_235 [(2, .bool true)] w60 (by kernel_rfl) ?_
        refine J.ret Try.f4 [.bool true] Try.func4 ⟨by kernel_rfl, trivial⟩ ?_
        refine hR _ _ ?_
        exact ⟨rfl, S60.nil⟩

end Go.Proofs.Ytpmkdhdcejcpfaa
