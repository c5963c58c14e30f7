/- Walks of functions of this seat, printed by a program over the engine. Conditions: as each theorem says. -/
import Derived.Test.YthiklimfffhbaaaDoorZlP13
namespace Go.Proofs.YthiklimfffhbaaaDoor
noncomputable section
open Go.Eng Go.RowKit
set_option linter.unusedSimpArgs false
set_option linter.unusedVariables false
abbrev kvP14_1 : List Value := [.string ByteArray.empty, iv 0, iv 0, .bool false, .bool false, iv 0, iv 0, iv 0, iv 0, iv 0]
abbrev pt (b : Nat) : Value := Value.pointer (some ⟨b, 0, none⟩)
theorem hb14 : HasBody Tryd.prog 14 := fun _ _ => by kernel_rfl
def K14_0 := adv 2 [] (bodyOf Tryd.f14)
def K14_1 := adv 9 [] (popK (popK K14_0))
def K14_2 := adv 5 [true] K14_1
def K14_3 := adv 2 [] (popK (popK K14_2))
def K14_4 := adv 4 [false] K14_1
def K14_5 := adv 5 [] (popK K14_4)
def K14_6 := adv 5 [] (popK K14_5)
def K14_7 := adv 5 [] K14_6
def K14_8 := adv 7 [true] K14_7
def K14_9 := adv 2 [] (popK (popK K14_8))
def K14_10 := adv 4 [] K14_9
abbrev K14T0 (la : Option Addr) (lc : Nat) (A : List ByteArray) (lb : Option Addr) (ld : Nat) (B : List Int) (ra : Option Addr) (rc : Nat) (out : List Frm) (b4 : Nat) (Pz : List ByteArray) (b3 : Nat) (b2 : Nat) (b1 : Nat) : List Eng.Claim := (rowOf (enc1 Value.string) la lc 9 1 A :: rowOf Eng.encI lb ld 3 1 B :: rowOf frmE ra rc 34 5 out :: box b4 (Pz.map Value.string) 9 :: box b3 [.slice ra out.length rc] 24 :: box b2 [iv 0, iv 0] 40 :: box b1 [.slice none 0 0] 24 :: tlF out)
abbrev K14E0 (i : Int) (Pz : List ByteArray) (b4 : Nat) (b3 : Nat) (b2 : Nat) (b1 : Nat) : Eng.Env := [(28, iv i), (27, iv (Pz.length : Int)), (26, .slice (some ⟨b4, 0, none⟩) Pz.length Pz.length), (5, pt b3), (3, pt b2), (2, pt b1)]
def K14_11 := adv 15 [] (popK K14_10)
def K14_12 := adv 4 [true] K14_11
def K14_13 := adv 4 [false] K14_11
def K14_14 := adv 3 [] (popK K14_13)
def K14_15 := adv 14 [] (popK K14_14)
def K14_16 := adv 3 [] (popK (popK K14_15))
def K14_17 := adv 4 [true] K14_16
def K14_18 := adv 1 [] (popK K14_17)
def K14_19 := adv 1 [] (popK K14_18)
def K14_20 := adv 1 [] (popK K14_19)
def K14_21 := adv 10 [] (popK K14_20)
def K14_22 := adv 5 [] (popK K14_21)
abbrev K14TF (b10 : Nat) (b7 : Nat) (b8 : Nat) (b9 : Nat) (b5 : Nat) (la : Option Addr) (lc : Nat) (A : List ByteArray) (lb : Option Addr) (ld : Nat) (B : List Int) (ra : Option Addr) (rc : Nat) (out : List Frm) (b4 : Nat) (Pz : List ByteArray) (b3 : Nat) (b2 : Nat) (b1 : Nat) : List Eng.Claim := (box b10 [.func (.func 59) #[] #[pt b7], .func (.func 60) #[] #[pt b8], .func (.func 60) #[] #[pt b9], .func (.func 41) #[] #[pt b5]] 82 :: box b9 [.pointer (some ⟨b5, 2, none⟩)] 86 :: box b8 [.pointer (some ⟨b5, 1, none⟩)] 86 :: box b7 [pt b5] 84 :: (K14T0 la lc A lb ld B ra rc out b4 Pz b3 b2 b1))
abbrev K14EF (b10 : Nat) (b6 : Nat) (b5 : Nat) (x : ByteArray) (lb : Option Addr) (B : List Int) (ld : Nat) (la : Option Addr) (A : List ByteArray) (lc : Nat) (i : Int) (Pz : List ByteArray) (b4 : Nat) (b3 : Nat) (b2 : Nat) (b1 : Nat) : Eng.Env := [(13, .slice (some ⟨b10, 0, none⟩) 4 4), (12, pt b6), (11, pt b5), (10, iv ((x.size : Int) + 1)), (9, .slice lb B.length ld), (8, .slice la A.length lc), (6, iv i), (28, iv i), (27, iv (Pz.length : Int)), (26, .slice (some ⟨b4, 0, none⟩) Pz.length Pz.length), (5, pt b3), (3, pt b2), (2, pt b1)]
def K14_23 := adv 5 [] K14_22
def K14_24 := adv 7 [true] K14_23
def K14_25 := adv 12 [] (popK (popK K14_24))
def K14_26 := adv 1 [] (popK (popK K14_25))
def K14_27 := adv 11 [false] (popK K14_26)
def K14_28 := adv 5 [] K14_27
def K14_29 := adv 7 [true] K14_28
def K14_30 := adv 12 [] (popK (popK K14_29))
def K14_31 := adv 1 [] (popK (popK K14_30))
def K14_32 := adv 3 [] (popK K14_31)
def K14_33 := adv 8 [false] K14_32
def K14_34 := adv 5 [] K14_33
def K14_35 := adv 7 [true] K14_34
def K14_36 := adv 12 [] (popK (popK K14_35))
def K14_37 := adv 1 [] (popK (popK K14_36))
def K14_38 := adv 3 [] (popK K14_37)
def K14_39 := adv 8 [false] K14_38
def K14_40 := adv 5 [] K14_39
def K14_41 := adv 7 [true] K14_40
def K14_42 := adv 12 [] (popK (popK K14_41))
def K14_43 := adv 1 [] (popK (popK K14_42))
def K14_44 := adv 3 [] (popK K14_43)
def K14_45 := adv 8 [false] K14_44
def K14_46 := adv 5 [] K14_45
def K14_47 := adv 7 [true] K14_46
def K14_48 := adv 21 [true] (popK (popK K14_47))
def K14_49 := adv 8 [false] K14_46
def K14_50 := adv 6 [] K14_49
def K14_51 := adv 5 [false] K14_50
def K14_52 := adv 2 [] (popK (popK K14_51))
def K14_53 := adv 3 [true] K14_52
def K14_54 := adv 1 [] (popK (popK (popK (popK K14_53))))
def K14_55 := adv 4 [] (popK K14_54)
def K14_56 := adv 2 [true] K14_44
def K14_57 := adv 8 [false] K14_40
def K14_58 := adv 6 [] K14_57
def K14_59 := adv 5 [false] K14_58
def K14_60 := adv 2 [] (popK (popK K14_59))
def K14_61 := adv 3 [true] K14_60
def K14_62 := adv 1 [] (popK (popK (popK (popK K14_61))))
def K14_63 := adv 4 [] (popK K14_62)
def K14_64 := adv 2 [true] K14_38
def K14_65 := adv 8 [false] K14_34
def K14_66 := adv 6 [] K14_65
def K14_67 := adv 6 [true] K14_66
def K14_68 := adv 2 [] K14_67
def K14_69 := adv 2 [] (popK (popK K14_68))
def K14_70 := adv 2 [true] K14_32
def K14_71 := adv 8 [false] K14_28
def K14_72 := adv 6 [] K14_71
def K14_73 := adv 6 [true] K14_72
def K14_74 := adv 2 [] K14_73
def K14_75 := adv 2 [] (popK (popK K14_74))
def K14_76 := adv 8 [false] K14_23
def K14_77 := adv 6 [] K14_76
def K14_78 := adv 6 [true] K14_77
def K14_79 := adv 2 [] K14_78
def K14_80 := adv 2 [] (popK (popK K14_79))
def K14_81 := adv 4 [false] K14_16
def K14_82 := adv 2 [] (popK (popK K14_81))
def K14_83 := adv 1 [] K14_82
def K14_84 := adv 5 [] (popK K14_83)
def K14_85 := adv 3 [true] K14_84
def K14_86 := adv 1 [] (popK K14_85)
def K14_87 := adv 1 [] (popK K14_86)
def K14_88 := adv 1 [] (popK K14_87)
def K14_89 := adv 1 [] (popK K14_88)
def K14_90 := adv 1 [] (popK K14_89)
def K14_91 := adv 1 [] (popK K14_90)
def K14_92 := adv 1 [] (popK K14_91)
def K14_93 := adv 1 [] (popK K14_92)
def K14_94 := adv 1 [] (popK K14_93)
def K14_95 := adv 7 [] (popK (popK K14_94))
def K14_96 := adv 5 [] (popK K14_95)
abbrev K14TS (b27 : Nat) (b13 : Nat) (b14 : Nat) (b15 : Nat) (b17 : Nat) (b16 : Nat) (b18 : Nat) (b20 : Nat) (b19 : Nat) (b21 : Nat) (b22 : Nat) (b23 : Nat) (b24 : Nat) (b25 : Nat) (b26 : Nat) (b6 : Nat) (la : Option Addr) (lc : Nat) (A : List ByteArray) (lb : Option Addr) (ld : Nat) (B : List Int) (ra : Option Addr) (rc : Nat) (out : List Frm) (b4 : Nat) (Pz : List ByteArray) (b3 : Nat) (b2 : Nat) (b1 : Nat) : List Eng.Claim := (box b27 [.func (.func 59) #[] #[pt b13], .func (.func 60) #[] #[pt b14], .func (.func 60) #[] #[pt b15], .func (.func 63) #[] #[pt b17, pt b16, pt b18], .func (.func 63) #[] #[pt b20, pt b19, pt b21], .func (.func 60) #[] #[pt b22], .func (.func 60) #[] #[pt b23], .func (.func 60) #[] #[pt b24], .func (.func 60) #[] #[pt b25], .func (.func 60) #[] #[pt b26]] 82 :: box b26 [.pointer (some ⟨b6, 9, none⟩)] 86 :: box b25 [.pointer (some ⟨b6, 8, none⟩)] 86 :: box b24 [.pointer (some ⟨b6, 7, none⟩)] 86 :: box b23 [.pointer (some ⟨b6, 6, none⟩)] 86 :: box b22 [.pointer (some ⟨b6, 5, none⟩)] 86 :: box b21 [.string ⟨#[117, 110, 115, 105, 103, 110, 101, 100]⟩] 9 :: box b20 [.string ⟨#[115, 105, 103, 110, 101, 100]⟩] 9 :: box b19 [.pointer (some ⟨b6, 4, none⟩)] 88 :: box b18 [.string ⟨#[105, 110, 116, 101, 108]⟩] 9 :: box b17 [.string ⟨#[109, 111, 116, 111, 114, 111, 108, 97]⟩] 9 :: box b16 [.pointer (some ⟨b6, 3, none⟩)] 88 :: box b15 [.pointer (some ⟨b6, 2, none⟩)] 86 :: box b14 [.pointer (some ⟨b6, 1, none⟩)] 86 :: box b13 [pt b6] 84 :: (K14T0 la lc A lb ld B ra rc out b4 Pz b3 b2 b1))
abbrev K14ES (b27 : Nat) (b6 : Nat) (b5 : Nat) (x : ByteArray) (lb : Option Addr) (B : List Int) (ld : Nat) (la : Option Addr) (A : List ByteArray) (lc : Nat) (i : Int) (Pz : List ByteArray) (b4 : Nat) (b3 : Nat) (b2 : Nat) (b1 : Nat) : Eng.Env := [(13, .slice (some ⟨b27, 0, none⟩) 10 10), (14, iv 0), (12, pt b6), (11, pt b5), (10, iv ((x.size : Int) + 1)), (9, .slice lb B.length ld), (8, .slice la A.length lc), (6, iv i), (28, iv i), (27, iv (Pz.length : Int)), (26, .slice (some ⟨b4, 0, none⟩) Pz.length Pz.length), (5, pt b3), (3, pt b2), (2, pt b1)]
def K14_97 := adv 5 [] K14_96
def K14_98 := adv 7 [true] K14_97
def K14_99 := adv 12 [] (popK (popK K14_98))
def K14_100 := adv 1 [] (popK (popK K14_99))
def K14_101 := adv 11 [false] (popK K14_100)
def K14_102 := adv 5 [] K14_101
def K14_103 := adv 7 [true] K14_102
def K14_104 := adv 12 [] (popK (popK K14_103))
def K14_105 := adv 1 [] (popK (popK K14_104))
def K14_106 := adv 3 [] (popK K14_105)
def K14_107 := adv 8 [false] K14_106
def K14_108 := adv 5 [] K14_107
def K14_109 := adv 7 [true] K14_108
def K14_110 := adv 12 [] (popK (popK K14_109))
def K14_111 := adv 1 [] (popK (popK K14_110))
def K14_112 := adv 3 [] (popK K14_111)
def K14_113 := adv 8 [false] K14_112
def K14_114 := adv 5 [] K14_113
def K14_115 := adv 7 [true] K14_114
def K14_116 := adv 12 [] (popK (popK K14_115))
def K14_117 := adv 1 [] (popK (popK K14_116))
def K14_118 := adv 3 [] (popK K14_117)
def K14_119 := adv 8 [false] K14_118
def K14_120 := adv 5 [] K14_119
def K14_121 := adv 7 [true] K14_120
def K14_122 := adv 12 [] (popK (popK K14_121))
def K14_123 := adv 1 [] (popK (popK K14_122))
def K14_124 := adv 3 [] (popK K14_123)
def K14_125 := adv 8 [false] K14_124
def K14_126 := adv 5 [] K14_125
def K14_127 := adv 7 [true] K14_126
def K14_128 := adv 12 [] (popK (popK K14_127))
def K14_129 := adv 1 [] (popK (popK K14_128))
def K14_130 := adv 3 [] (popK K14_129)
def K14_131 := adv 8 [false] K14_130
def K14_132 := adv 5 [] K14_131
def K14_133 := adv 7 [true] K14_132
def K14_134 := adv 12 [] (popK (popK K14_133))
def K14_135 := adv 1 [] (popK (popK K14_134))
def K14_136 := adv 3 [] (popK K14_135)
def K14_137 := adv 8 [false] K14_136
def K14_138 := adv 5 [] K14_137
def K14_139 := adv 7 [true] K14_138
def K14_140 := adv 12 [] (popK (popK K14_139))
def K14_141 := adv 1 [] (popK (popK K14_140))
def K14_142 := adv 3 [] (popK K14_141)
def K14_143 := adv 8 [false] K14_142
def K14_144 := adv 5 [] K14_143
def K14_145 := adv 7 [true] K14_144
def K14_146 := adv 12 [] (popK (popK K14_145))
def K14_147 := adv 1 [] (popK (popK K14_146))
def K14_148 := adv 3 [] (popK K14_147)
def K14_149 := adv 8 [false] K14_148
def K14_150 := adv 5 [] K14_149
def K14_151 := adv 7 [true] K14_150
def K14_152 := adv 12 [] (popK (popK K14_151))
def K14_153 := adv 1 [] (popK (popK K14_152))
def K14_154 := adv 3 [] (popK K14_153)
def K14_155 := adv 8 [false] K14_154
def K14_156 := adv 5 [] K14_155
def K14_157 := adv 7 [true] K14_156
def K14_158 := adv 21 [true] (popK (popK K14_157))
def K14_159 := adv 8 [false] K14_156
def K14_160 := adv 6 [] K14_159
def K14_161 := adv 5 [false] K14_160
def K14_162 := adv 2 [] (popK (popK K14_161))
def K14_163 := adv 4 [false] K14_162
def K14_164 := adv 1 [] (popK K14_163)
def K14_165 := adv 2 [] (popK K14_164)
def K14_166 := adv 2 [] (popK K14_165)
def K14_167 := adv 3 [] (rRest K14_166)
def K14_168 := adv 2 [true] K14_154
def K14_169 := adv 8 [false] K14_150
def K14_170 := adv 6 [] K14_169
def K14_171 := adv 6 [true] K14_170
def K14_172 := adv 2 [] K14_171
def K14_173 := adv 2 [] (popK (popK K14_172))
def K14_174 := adv 2 [true] K14_148
def K14_175 := adv 8 [false] K14_144
def K14_176 := adv 6 [] K14_175
def K14_177 := adv 6 [true] K14_176
def K14_178 := adv 2 [] K14_177
def K14_179 := adv 2 [] (popK (popK K14_178))
def K14_180 := adv 2 [true] K14_142
def K14_181 := adv 8 [false] K14_138
def K14_182 := adv 6 [] K14_181
def K14_183 := adv 6 [true] K14_182
def K14_184 := adv 2 [] K14_183
def K14_185 := adv 2 [] (popK (popK K14_184))
def K14_186 := adv 2 [true] K14_136
def K14_187 := adv 8 [false] K14_132
def K14_188 := adv 6 [] K14_187
def K14_189 := adv 6 [true] K14_188
def K14_190 := adv 2 [] K14_189
def K14_191 := adv 2 [] (popK (popK K14_190))
def K14_192 := adv 2 [true] K14_130
def K14_193 := adv 8 [false] K14_126
def K14_194 := adv 6 [] K14_193
def K14_195 := adv 6 [true] K14_194
def K14_196 := adv 2 [] K14_195
def K14_197 := adv 2 [] (popK (popK K14_196))
def K14_198 := adv 2 [true] K14_124
def K14_199 := adv 8 [false] K14_120
def K14_200 := adv 6 [] K14_199
def K14_201 := adv 6 [true] K14_200
def K14_202 := adv 2 [] K14_201
def K14_203 := adv 2 [] (popK (popK K14_202))
def K14_204 := adv 2 [true] K14_118
def K14_205 := adv 8 [false] K14_114
def K14_206 := adv 6 [] K14_205
def K14_207 := adv 6 [true] K14_206
def K14_208 := adv 2 [] K14_207
def K14_209 := adv 2 [] (popK (popK K14_208))
def K14_210 := adv 2 [true] K14_112
def K14_211 := adv 8 [false] K14_108
def K14_212 := adv 6 [] K14_211
def K14_213 := adv 6 [true] K14_212
def K14_214 := adv 2 [] K14_213
def K14_215 := adv 2 [] (popK (popK K14_214))
def K14_216 := adv 2 [true] K14_106
def K14_217 := adv 8 [false] K14_102
def K14_218 := adv 6 [] K14_217
def K14_219 := adv 6 [true] K14_218
def K14_220 := adv 2 [] K14_219
def K14_221 := adv 2 [] (popK (popK K14_220))
def K14_222 := adv 8 [false] K14_97
def K14_223 := adv 6 [] K14_222
def K14_224 := adv 6 [true] K14_223
def K14_225 := adv 2 [] K14_224
def K14_226 := adv 2 [] (popK (popK K14_225))
def K14_227 := adv 2 [false] K14_84
def K14_228 := adv 9 [false] K14_82
def K14_229 := adv 5 [false] K14_7
def K14_230 := adv 11 [] (popK (popK K14_229))
def K14_231 := adv 4 [false] K14_230
def K14_232 := adv 1 [] (popK K14_231)
def K14_233 := adv 2 [] (popK (popK K14_232))
def K14_234 := adv 6 [true] K14_230
def K14_235 := adv 2 [] (popK (popK K14_234))
set_option maxRecDepth 20000 in
set_option maxHeartbeats 20000000 in
theorem parse_any (s : ByteArray) (w : World) (hs : s.size ≤ 9223372036854775807) (hW : TabW w) : Ret Tryd.prog 14 #[.string s] w (PPost s w) := by
 have S0 := Sep.refl w
 refine Ret.named fun R hR => ?_
 refine Ret.of_J (N := 178) [(0, .string s)] Tryd.func14 rfl rfl (Nat.le_of_ble_eq_true (by kernel_rfl)) (by kernel_rfl) ?_
 refine J.run 2 K14_0 [(0, .string s)] w (by kernel_rfl) ?_
 refine J.new S0 2 [.slice none 0 0] 24 (by kernel_rfl) ?_
 intro b1 w1 S1
 refine J.new S1 3 [iv 0, iv 0] 40 (by kernel_rfl) ?_
 intro b2 w2 S2
 refine J.run 9 K14_1 [(22, .bool (decide ((s.size : Int) > 16384))), (3, pt b2), (2, pt b1), (0, .string s)] w2 (by kernel_rfl) ?_
 by_cases fk1 : (s.size : Int) > 16384
 ·skip
  refine J.head (.bool true) (congrArg Value.bool (decide_eq_true fk1)) ?_
  refine J.run 5 K14_2 [(24, .agg #[iv 0, iv 0]), (23, .agg #[.slice none 0 0]), (3, pt b2), (2, pt b1)] w2 (by kernel_rfl) ?_
  refine J.stBox S2 1 24 0 (.agg #[.slice none 0 0]) [.slice none 0 0] [box b2 [iv 0, iv 0] 40, box b1 [.slice none 0 0] 24] (by kernel_rfl) rfl (by kernel_rfl) (by kernel_rfl) rfl ?_
  intro w3 S3
  refine J.stBox S3 0 40 0 (.agg #[iv 0, iv 0]) [iv 0, iv 0] [box b2 [iv 0, iv 0] 40, box b1 [.slice none 0 0] 24] (by kernel_rfl) rfl (by kernel_rfl) (by kernel_rfl) rfl ?_
  intro w4 S4
  refine J.run 2 K14_3 [(4, iv 5), (3, pt b2), (2, pt b1)] w4 (by kernel_rfl) ?_
  refine J.ret Tryd.f14 [.agg #[.slice none 0 0], .agg #[iv 0, iv 0], iv 5] Tryd.func14 ⟨⟨⟨b1, 0, none⟩, by kernel_rfl, ldV_run (S4.nth 1 rfl) (by kernel_rfl)⟩, ⟨⟨b2, 0, none⟩, by kernel_rfl, ldV_run (S4.nth 0 rfl) (by kernel_rfl)⟩, by kernel_rfl, trivial⟩ ?_
  refine hR _ _ ?_
  exact bad_post (by unfold parsF; rw [if_pos (by omega)]) S4
 refine J.head (.bool false) (congrArg Value.bool (decide_eq_false fk1)) ?_
 refine J.run 4 K14_4 [(3, pt b2), (2, pt b1), (0, .string s)] w2 (by kernel_rfl) ?_
 refine J.new S2 5 [.slice none 0 0] 24 (by kernel_rfl) ?_
 intro b3 w5 S5
 refine J.run 5 K14_5 [(25, .string s), (5, pt b3), (3, pt b2), (2, pt b1)] w5 (by kernel_rfl) ?_
 refine J.callF 26 19 #[.string s, .string ⟨#[10]⟩] hb19 (by kernel_rfl) (split10_any s _ (by omega) (tabW_sep hW S5)) ?_
 rintro _ w6 ⟨b4, rfl, T1⟩
 have S6 : Sep w [box b4 ((piecesB 10 s).map Value.string) 9, box b3 [.slice none 0 0] 24, box b2 [iv 0, iv 0] 40, box b1 [.slice none 0 0] 24] w6 := S5.trans T1
 clear T1
 have := splitOn_bound 10 (ls s); have := pieces_len 10 s; have := ls_length s
 have hpl : (piecesB 10 s).length = (splitOn 10 (ls s)).length := pieces_len 10 s
 generalize hPB : piecesB 10 s = Pz at *
 refine J.run 5 K14_6 [(28, iv 0), (27, iv (Pz.length : Int)), (26, .slice (some ⟨b4, 0, none⟩) Pz.length Pz.length), (5, pt b3), (3, pt b2), (2, pt b1)] w6 (by kernel_rfl) ?_
 have S7 : Sep w (box b4 (Pz.map Value.string) 9 :: box b3 [.slice none 0 0] 24 :: box b2 [iv 0, iv 0] 40 :: box b1 [.slice none 0 0] 24 :: tlF ([])) w6 := S6
 have S8 : Sep w (rowOf frmE none 0 34 5 ([]) :: box b4 (Pz.map Value.string) 9 :: box b3 [.slice none 0 0] 24 :: box b2 [iv 0, iv 0] 40 :: box b1 [.slice none 0 0] 24 :: tlF ([])) w6 := S7.nilRow 34 5
 have L14_1 : ∀ (mm_ : Nat) (ra : Option Addr) (rc : Nat) (out : List Frm) (i : Int) (w7 : World), (0 ≤ i) → (i ≤ (Pz.length : Int)) → (((out).length : Int) ≤ i) → (∀ y ∈ out, okF y) → (∀ y ∈ out, (y.gSignals_l.length : Int) ≤ i) → (parsF s = parP ((splitOn 10 (ls s)).drop (i).toNat) (i + 1) ((out).map clF)) → Sep w (rowOf frmE ra rc 34 5 out :: box b4 (Pz.map Value.string) 9 :: box b3 [.slice ra out.length rc] 24 :: box b2 [iv 0, iv 0] 40 :: box b1 [.slice none 0 0] 24 :: tlF out) w7 → ((Pz.length : Int) - i).toNat = mm_ → J Tryd.prog 14 178 R K14_6 [(28, iv i), (27, iv (Pz.length : Int)), (26, .slice (some ⟨b4, 0, none⟩) Pz.length Pz.length), (5, pt b3), (3, pt b2), (2, pt b1)] w7 := by
  intro mm1
  induction mm1 using Nat.strongRecOn with
  | _ mm1 ih1 =>
  intro ra rc out i w7 h0 h1 hol hof hsl hQ S9 hm1
  refine J.run 5 K14_7 [(29, .bool (decide (i < (Pz.length : Int)))), (28, iv i), (27, iv (Pz.length : Int)), (26, .slice (some ⟨b4, 0, none⟩) Pz.length Pz.length), (5, pt b3), (3, pt b2), (2, pt b1)] w7 (by kernel_rfl) ?_
  by_cases fk2 : i < (Pz.length : Int)
  rotate_left
  ·skip
   refine J.head (.bool false) (congrArg Value.bool (decide_eq_false fk2)) ?_
   refine J.run 5 K14_229 [(5, pt b3), (3, pt b2), (2, pt b1)] w7 (by kernel_rfl) ?_
   refine J.ok (OK.ldBox S9 2 167 24 0 (.agg #[.slice ra out.length rc]) (by kernel_rfl) rfl (by kernel_rfl)) ?_
   refine J.callF 168 43 #[.agg #[.slice ra out.length rc]] hb43 (by kernel_rfl) (fault_any (⟨ra, out.length, rc, out⟩ : Db) _ (show dbQ _ (⟨ra, out.length, rc, out⟩ : Db) from ⟨⟨(rowOf_cells (S9.nth 0 rfl)).2.2, rowOf_cap (S9.nth 0 rfl)⟩, (rowOf_recs (S9.nth 0 rfl) _ rfl (fun _ => rfl) (by decide)), by exact tl_q (L1 := [rowOf frmE ra rc 34 5 out, box b4 (Pz.map Value.string) 9, box b3 [.slice ra out.length rc] 24, box b2 [iv 0, iv 0] 40, box b1 [.slice none 0 0] 24]) S9 hof, trivial⟩)) ?_
   rintro _ w131 ⟨rfl, T3⟩
   have S293 : Sep w (rowOf frmE ra rc 34 5 out :: box b4 (Pz.map Value.string) 9 :: box b3 [.slice ra out.length rc] 24 :: box b2 [iv 0, iv 0] 40 :: box b1 [.slice none 0 0] 24 :: tlF out) w131 := S9.trans T3
   clear T3 S9
   refine J.run 11 K14_230 [(172, .bool (((faultF (⟨ra, out.length, rc, out⟩ : Db)).2) != 0)), (19, iv ((faultF (⟨ra, out.length, rc, out⟩ : Db)).2)), (5, pt b3), (3, pt b2), (2, pt b1)] w131 (by kernel_rfl) ?_
   by_cases fk70 : ((faultF (⟨ra, out.length, rc, out⟩ : Db)).2) = 0
   rotate_left
   ·skip
    refine J.head (.bool true) (congrArg Value.bool (bne_iff_ne.2 fk70)) ?_
    refine J.run 6 K14_234 [(175, iv ((faultF (⟨ra, out.length, rc, out⟩ : Db)).2)), (174, .agg #[iv 0, iv 0]), (173, .agg #[.slice none 0 0]), (3, pt b2), (2, pt b1)] w131 (by kernel_rfl) ?_
    refine J.stBox S293 4 24 0 (.agg #[.slice none 0 0]) [.slice none 0 0] (rowOf frmE ra rc 34 5 out :: box b4 (Pz.map Value.string) 9 :: box b3 [.slice ra out.length rc] 24 :: box b2 [iv 0, iv 0] 40 :: box b1 [.slice none 0 0] 24 :: tlF out) (by kernel_rfl) rfl (by kernel_rfl) (by kernel_rfl) rfl ?_
    intro w134 S297
    refine J.stBox S297 3 40 0 (.agg #[iv 0, iv 0]) [iv 0, iv 0] (rowOf frmE ra rc 34 5 out :: box b4 (Pz.map Value.string) 9 :: box b3 [.slice ra out.length rc] 24 :: box b2 [iv 0, iv 0] 40 :: box b1 [.slice none 0 0] 24 :: tlF out) (by kernel_rfl) rfl (by kernel_rfl) (by kernel_rfl) rfl ?_
    intro w135 S298
    refine J.run 2 K14_235 [(4, iv ((faultF (⟨ra, out.length, rc, out⟩ : Db)).2)), (3, pt b2), (2, pt b1)] w135 (by kernel_rfl) ?_
    refine J.ret Tryd.f14 [.agg #[.slice none 0 0], .agg #[iv 0, iv 0], iv ((faultF (⟨ra, out.length, rc, out⟩ : Db)).2)] Tryd.func14 ⟨⟨⟨b1, 0, none⟩, by kernel_rfl, ldV_run (S298.nth 4 rfl) (by kernel_rfl)⟩, ⟨⟨b2, 0, none⟩, by kernel_rfl, ldV_run (S298.nth 3 rfl) (by kernel_rfl)⟩, by kernel_rfl, trivial⟩ ?_
    refine hR _ _ ?_
    exact fin_bad (pp_end hQ (by omega)) hof fk70 S298
   refine J.head (.bool false) (congrArg Value.bool (bne_eq_false_iff_eq.2 fk70)) ?_
   refine J.run 4 K14_231 [(5, pt b3), (3, pt b2), (2, pt b1)] w131 (by kernel_rfl) ?_
   refine J.ok (OK.ldBox S293 2 176 24 0 (.agg #[.slice ra out.length rc]) (by kernel_rfl) rfl (by kernel_rfl)) ?_
   refine J.run 1 K14_232 [(177, .agg #[iv 0, iv 0]), (176, .agg #[.slice ra out.length rc]), (3, pt b2), (2, pt b1)] w131 (by kernel_rfl) ?_
   refine J.stBox S293 4 24 0 (.agg #[.slice ra out.length rc]) [.slice ra out.length rc] (rowOf frmE ra rc 34 5 out :: box b4 (Pz.map Value.string) 9 :: box b3 [.slice ra out.length rc] 24 :: box b2 [iv 0, iv 0] 40 :: box b1 [.slice ra out.length rc] 24 :: tlF out) (by kernel_rfl) rfl (by kernel_rfl) (by kernel_rfl) rfl ?_
   intro w132 S294
   refine J.stBox S294 3 40 0 (.agg #[iv 0, iv 0]) [iv 0, iv 0] (rowOf frmE ra rc 34 5 out :: box b4 (Pz.map Value.string) 9 :: box b3 [.slice ra out.length rc] 24 :: box b2 [iv 0, iv 0] 40 :: box b1 [.slice ra out.length rc] 24 :: tlF out) (by kernel_rfl) rfl (by kernel_rfl) (by kernel_rfl) rfl ?_
   intro w133 S295
   refine J.run 2 K14_233 [(4, iv 0), (3, pt b2), (2, pt b1)] w133 (by kernel_rfl) ?_
   refine J.ret Tryd.f14 [.agg #[.slice ra out.length rc], .agg #[iv 0, iv 0], iv 0] Tryd.func14 ⟨⟨⟨b1, 0, none⟩, by kernel_rfl, ldV_run (S295.nth 4 rfl) (by kernel_rfl)⟩, ⟨⟨b2, 0, none⟩, by kernel_rfl, ldV_run (S295.nth 3 rfl) (by kernel_rfl)⟩, by kernel_rfl, trivial⟩ ?_
   refine hR _ _ ?_
   have S296 : Sep w (rowOf frmE ra rc 34 5 out :: tlF out) w133 := S295.sub (.cons_cons _ (.cons _ (.cons _ (.cons _ (.cons _ (List.Sublist.refl _))))))
   clear S295
   exact fin_ok (pp_end hQ (by omega)) hof fk70 S296
  refine J.head (.bool true) (congrArg Value.bool (decide_eq_true fk2)) ?_
  refine J.run 7 K14_8 [(30, iv i), (28, iv i), (27, iv (Pz.length : Int)), (26, .slice (some ⟨b4, 0, none⟩) Pz.length Pz.length), (5, pt b3), (3, pt b2), (2, pt b1)] w7 (by kernel_rfl) ?_
  obtain ⟨p1, hp1, hc1⟩ := (box_ones (S9.nth 1 rfl) Pz.length rfl).at ByteArray.empty (i).toNat (by omega)
  refine J.ok (OK.index 31 49 1 (some ⟨b4, 0, none⟩) p1 Pz.length (i).toNat i (p1.add (i).toNat) (by kernel_rfl) (by kernel_rfl) hp1 (by omega) (by omega) (by rw [Nat.mul_one])) ?_
  refine J.ok (OK.ldCell 32 9 (p1.add (i).toNat) (.string (Pz.getD (i).toNat ByteArray.empty)) (by kernel_rfl) (by kernel_rfl) hc1) ?_
  refine J.run 2 K14_9 [(7, .string (Pz.getD (i).toNat ByteArray.empty)), (6, iv i), (28, iv i), (27, iv (Pz.length : Int)), (26, .slice (some ⟨b4, 0, none⟩) Pz.length Pz.length), (5, pt b3), (3, pt b2), (2, pt b1)] w7 (by kernel_rfl) ?_
  obtain ⟨x, hx⟩ : ∃ x : ByteArray, x = Pz.getD (i).toNat ByteArray.empty := ⟨_, rfl⟩
  refine J.head (.string x) (congrArg Value.string hx.symm) ?_
  have hx1 : ls x = (splitOn 10 (ls s)).getD i.toNat [] := by rw [hx, ← hPB]; exact piecesB_getD 10 s i.toNat (by omega)
  have hxs : x.size ≤ s.size := by rw [hx, ← hPB]; exact piece_size 10 s i.toNat
  refine J.run 4 K14_10 [(34, .string x), (6, iv i), (28, iv i), (27, iv (Pz.length : Int)), (26, .slice (some ⟨b4, 0, none⟩) Pz.length Pz.length), (5, pt b3), (3, pt b2), (2, pt b1)] w7 (by kernel_rfl) ?_
  refine J.callF 35 38 #[.string x] hb38 (by kernel_rfl) (split_any2 x _ (by omega) (tabW_sep hW S9)) ?_
  rintro _ w8 ⟨L, hL, A, B, la, lc, lb, ld, ⟨hA, hB⟩, rfl, T2⟩
  have S10 : Sep w (rowOf (enc1 Value.string) la lc 9 1 A :: rowOf Eng.encI lb ld 3 1 B :: rowOf frmE ra rc 34 5 out :: box b4 (Pz.map Value.string) 9 :: box b3 [.slice ra out.length rc] 24 :: box b2 [iv 0, iv 0] 40 :: box b1 [.slice none 0 0] 24 :: tlF out) w8 := S9.trans T2
  clear T2 S9
  replace S10 : Sep w (K14T0 la lc A lb ld B ra rc out b4 Pz b3 b2 b1) w8 := S10
  have hal : A.length = L.length := by rw [hA, List.length_map]
  have hbl : B.length = L.length := by rw [hB, List.length_map]
  have hws : ∀ k, (wAt L k).size ≤ 1000000 := w_size hL (by rw [ls_length]; omega)
  obtain ⟨Z, hZl⟩ : ∃ Z, Z = lineE (!(out.map clF).isEmpty) L ((x.size : Int) + 1) := ⟨_, rfl⟩
  refine J.run 15 K14_11 ((41, .bool ((A.length : Int) == 0)) :: (10, iv ((x.size : Int) + 1)) :: (9, .slice lb B.length ld) :: (8, .slice la A.length lc) :: (6, iv i) :: (K14E0 i Pz b4 b3 b2 b1)) w8 (by kernel_rfl) ?_
  by_cases fk3 : (A.length : Int) = 0
  ·skip
   refine J.head (.bool true) (congrArg Value.bool (beq_iff_eq.2 fk3)) ?_
   refine J.run 4 K14_12 [(165, iv (IntKind.wrap .i64 (i + 1))), (27, iv (Pz.length : Int)), (26, .slice (some ⟨b4, 0, none⟩) Pz.length Pz.length), (5, pt b3), (3, pt b2), (2, pt b1)] w8 (by kernel_rfl) ?_
   refine J.head (iv (i + 1)) (congrArg (Value.int .i64) (IntWalk.i64_in _ (by omega))) ?_
   refine J.run 3 K14_6 [(28, iv (i + 1)), (27, iv (Pz.length : Int)), (26, .slice (some ⟨b4, 0, none⟩) Pz.length Pz.length), (5, pt b3), (3, pt b2), (2, pt b1)] w8 (by kernel_rfl) ?_
   have S11 : Sep w (rowOf (enc1 Value.string) la lc 9 1 A :: rowOf frmE ra rc 34 5 out :: box b4 (Pz.map Value.string) 9 :: box b3 [.slice ra out.length rc] 24 :: box b2 [iv 0, iv 0] 40 :: box b1 [.slice none 0 0] 24 :: tlF out) w8 := S10.erase 1
   clear S10
   have S12 : Sep w (rowOf frmE ra rc 34 5 out :: box b4 (Pz.map Value.string) 9 :: box b3 [.slice ra out.length rc] 24 :: box b2 [iv 0, iv 0] 40 :: box b1 [.slice none 0 0] 24 :: tlF out) w8 := S11.erase 0
   clear S11
   refine J.run 0 K14_6 [(28, iv (i + 1)), (27, iv (Pz.length : Int)), (26, .slice (some ⟨b4, 0, none⟩) Pz.length Pz.length), (5, pt b3), (3, pt b2), (2, pt b1)] w8 (by kernel_rfl) ?_
   exact ih1 _ (show ((Pz.length : Int) - (i + 1)).toNat < mm1 from by omega) ra rc out (i + 1) w8 (by omega) (by omega) (by first | omega | (rw [List.length_append, List.length_singleton]; omega) | (rw [List.length_set]; omega)) (hof) (fun y hy => Int.le_trans (hsl y hy) (by omega)) ((pp_skip hQ h0 (by omega) (hL.trans (by rw [hx1])) (by omega))) S12 rfl
  refine J.head (.bool false) (congrArg Value.bool (beq_eq_false_iff_ne.2 fk3)) ?_
  refine J.run 4 K14_13 ((10, iv ((x.size : Int) + 1)) :: (9, .slice lb B.length ld) :: (8, .slice la A.length lc) :: (6, iv i) :: (K14E0 i Pz b4 b3 b2 b1)) w8 (by kernel_rfl) ?_
  refine J.new S10 11 [.string ByteArray.empty, iv 0, iv 0, .bool false, .slice none 0 0] 34 (by kernel_rfl) ?_
  intro b5 w9 S13
  refine J.run 3 K14_14 ((11, pt b5) :: (10, iv ((x.size : Int) + 1)) :: (9, .slice lb B.length ld) :: (8, .slice la A.length lc) :: (6, iv i) :: (K14E0 i Pz b4 b3 b2 b1)) w9 (by kernel_rfl) ?_
  refine J.new S13 12 kvP14_1 57 (by kernel_rfl) ?_
  intro b6 w10 S14
  refine J.run 14 K14_15 ((50, .slice la A.length lc) :: (14, iv 0) :: (12, pt b6) :: (11, pt b5) :: (10, iv ((x.size : Int) + 1)) :: (9, .slice lb B.length ld) :: (8, .slice la A.length lc) :: (6, iv i) :: (K14E0 i Pz b4 b3 b2 b1)) w10 (by kernel_rfl) ?_
  obtain ⟨p2, hp2⟩ := row1_addr (S14.nth 2 rfl) (show 0 < (A).length by first | omega | (simp; omega))
  refine J.ok (OK.index 51 49 1 la p2 A.length 0 0 (p2.add 0) (by kernel_rfl) (by kernel_rfl) hp2 (by omega) (by first | omega | (simp; omega)) (by rw [Nat.mul_one])) ?_
  refine J.ok (OK.ldCell 52 9 (p2.add 0) (.string (A.getD 0 ByteArray.empty)) (by kernel_rfl) (by kernel_rfl) (row1_cell (g := Value.string) S14 2 rfl hp2 ByteArray.empty 0 (by first | omega | (simp; omega)))) ?_
  obtain ⟨u1, hu1⟩ : ∃ x : ByteArray, x = A.getD 0 ByteArray.empty := ⟨_, rfl⟩
  have e_u1 : u1 = wAt L 0 := by rw [hu1, hA]; exact fst_at L 0
  have z_u1 : u1.size ≤ 1000000 := by rw [e_u1]; exact hws _
  refine J.head (.string u1) (congrArg Value.string hu1.symm) ?_
  refine J.run 3 K14_16 ((49, .bool (u1.toList == WFr.toList)) :: (14, iv 0) :: (12, pt b6) :: (11, pt b5) :: (10, iv ((x.size : Int) + 1)) :: (9, .slice lb B.length ld) :: (8, .slice la A.length lc) :: (6, iv i) :: (K14E0 i Pz b4 b3 b2 b1)) w10 (by kernel_rfl) ?_
  rcases Bool.eq_false_or_eq_true (u1.toList == WFr.toList) with fk4 | fk4
  ·skip
   refine J.head (.bool true) (congrArg Value.bool fk4) ?_
   refine J.run 4 K14_17 ((54, pt b5) :: (12, pt b6) :: (11, pt b5) :: (10, iv ((x.size : Int) + 1)) :: (9, .slice lb B.length ld) :: (8, .slice la A.length lc) :: (6, iv i) :: (K14E0 i Pz b4 b3 b2 b1)) w10 (by kernel_rfl) ?_
   refine J.callF 55 39 #[pt b5] hb39 (by kernel_rfl) (mktext_any (some ⟨b5, 0, none⟩) _ _ _ S14) ?_
   rintro _ w11 ⟨b7, rfl, S15⟩
   replace S15 : Sep w (box b7 [pt b5] 84 :: box b6 kvP14_1 57 :: box b5 [.string ByteArray.empty, iv 0, iv 0, .bool false, .slice none 0 0] 34 :: (K14T0 la lc A lb ld B ra rc out b4 Pz b3 b2 b1)) w11 := S15
   clear S14
   refine J.run 1 K14_18 ((56, .pointer (some ⟨b5, 1, none⟩)) :: (55, .func (.func 59) #[] #[pt b7]) :: (12, pt b6) :: (11, pt b5) :: (10, iv ((x.size : Int) + 1)) :: (9, .slice lb B.length ld) :: (8, .slice la A.length lc) :: (6, iv i) :: (K14E0 i Pz b4 b3 b2 b1)) w11 (by kernel_rfl) ?_
   refine J.callF 57 40 #[.pointer (some ⟨b5, 1, none⟩)] hb40 (by kernel_rfl) (mknumber_any (some ⟨b5, 1, none⟩) _ _ _ S15) ?_
   rintro _ w12 ⟨b8, rfl, S16⟩
   replace S16 : Sep w (box b8 [.pointer (some ⟨b5, 1, none⟩)] 86 :: box b7 [pt b5] 84 :: box b6 kvP14_1 57 :: box b5 [.string ByteArray.empty, iv 0, iv 0, .bool false, .slice none 0 0] 34 :: (K14T0 la lc A lb ld B ra rc out b4 Pz b3 b2 b1)) w12 := S16
   clear S15
   refine J.run 1 K14_19 ((58, .pointer (some ⟨b5, 2, none⟩)) :: (57, .func (.func 60) #[] #[pt b8]) :: (55, .func (.func 59) #[] #[pt b7]) :: (12, pt b6) :: (11, pt b5) :: (10, iv ((x.size : Int) + 1)) :: (9, .slice lb B.length ld) :: (8, .slice la A.length lc) :: (6, iv i) :: (K14E0 i Pz b4 b3 b2 b1)) w12 (by kernel_rfl) ?_
   refine J.callF 59 40 #[.pointer (some ⟨b5, 2, none⟩)] hb40 (by kernel_rfl) (mknumber_any (some ⟨b5, 2, none⟩) _ _ _ S16) ?_
   rintro _ w13 ⟨b9, rfl, S17⟩
   replace S17 : Sep w (box b9 [.pointer (some ⟨b5, 2, none⟩)] 86 :: box b8 [.pointer (some ⟨b5, 1, none⟩)] 86 :: box b7 [pt b5] 84 :: box b6 kvP14_1 57 :: box b5 [.string ByteArray.empty, iv 0, iv 0, .bool false, .slice none 0 0] 34 :: (K14T0 la lc A lb ld B ra rc out b4 Pz b3 b2 b1)) w13 := S17
   clear S16
   refine J.run 1 K14_20 ((60, .func (.func 41) #[] #[pt b5]) :: (59, .func (.func 60) #[] #[pt b9]) :: (57, .func (.func 60) #[] #[pt b8]) :: (55, .func (.func 59) #[] #[pt b7]) :: (12, pt b6) :: (11, pt b5) :: (10, iv ((x.size : Int) + 1)) :: (9, .slice lb B.length ld) :: (8, .slice la A.length lc) :: (6, iv i) :: (K14E0 i Pz b4 b3 b2 b1)) w13 (by kernel_rfl) ?_
   refine J.newSlice S17 61 4 [.func (.func 59) #[] #[pt b7], .func (.func 60) #[] #[pt b8], .func (.func 60) #[] #[pt b9], .func (.func 41) #[] #[pt b5]] 82 (by kernel_rfl) ?_
   intro b10 w14 S18
   refine J.run 10 K14_21 ((94, .slice la A.length lc) :: (14, iv 1) :: (13, .slice (some ⟨b10, 0, none⟩) 4 4) :: (12, pt b6) :: (11, pt b5) :: (10, iv ((x.size : Int) + 1)) :: (9, .slice lb B.length ld) :: (8, .slice la A.length lc) :: (6, iv i) :: (K14E0 i Pz b4 b3 b2 b1)) w14 (by kernel_rfl) ?_
   have := (rowOf_cells (S18.nth 6 rfl)).2.2
   refine J.ok (OK.slice 95 49 1 la A.length lc (some (iv 1)) none 1 A.length (by kernel_rfl) (by kernel_rfl) (.inr ⟨_, _, rfl, rfl⟩) (.inl ⟨rfl, rfl⟩) (by first | omega | (simp; omega)) (by first | omega | (simp; omega))) ?_
   have := List.length_drop (i := 1) (l := A)
   refine J.run 5 K14_22 ((97, iv 0) :: (96, iv ((A.length - 1 : Nat) : Int)) :: (95, .slice (subA la lc 1 1) (A.length - 1) (lc - 1)) :: (14, iv 1) :: (13, .slice (some ⟨b10, 0, none⟩) 4 4) :: (12, pt b6) :: (11, pt b5) :: (10, iv ((x.size : Int) + 1)) :: (9, .slice lb B.length ld) :: (8, .slice la A.length lc) :: (6, iv i) :: (K14E0 i Pz b4 b3 b2 b1)) w14 (by kernel_rfl) ?_
   have S19 : Sep w (box b10 [.func (.func 59) #[] #[pt b7], .func (.func 60) #[] #[pt b8], .func (.func 60) #[] #[pt b9], .func (.func 41) #[] #[pt b5]] 82 :: box b9 [.pointer (some ⟨b5, 2, none⟩)] 86 :: box b8 [.pointer (some ⟨b5, 1, none⟩)] 86 :: box b7 [pt b5] 84 :: box b5 [.string ByteArray.empty, iv 0, iv 0, .bool false, .slice none 0 0] 34 :: (K14T0 la lc A lb ld B ra rc out b4 Pz b3 b2 b1)) w14 := S18.sub (.cons_cons _ (.cons_cons _ (.cons_cons _ (.cons_cons _ (.cons _ (.cons_cons _ (.cons_cons _ (.cons_cons _ (.cons_cons _ (.cons_cons _ (.cons_cons _ (.cons_cons _ (.cons_cons _ (List.Sublist.refl _))))))))))))))
   clear S18
   have S20 := S19.front 4 rfl
   clear S19
   replace S20 : Sep w (box b5 [.string ByteArray.empty, iv 0, iv 0, .bool false, .slice none 0 0] 34 :: (K14TF b10 b7 b8 b9 b5 la lc A lb ld B ra rc out b4 Pz b3 b2 b1)) w14 := S20
   have hkF : eqT (wAt L 0) WFr = true := by rw [← e_u1]; exact fk4
   have hZ : Z = rdS [0, 1, 1, 2] 1 (L.drop 1) ((x.size : Int) + 1) := by rw [hZl]; exact line_frame hkF
   refine J.run 5 K14_23 ((98, .bool (decide (0 < ((A.length - 1 : Nat) : Int)))) :: (97, iv 0) :: (96, iv ((A.length - 1 : Nat) : Int)) :: (95, .slice (subA la lc 1 1) (A.length - 1) (lc - 1)) :: (14, iv 1) :: (K14EF b10 b6 b5 x lb B ld la A lc i Pz b4 b3 b2 b1)) w14 (by kernel_rfl) ?_
   by_cases fk5 : 0 < ((A.length - 1 : Nat) : Int)
   rotate_left
   ·skip
    refine J.head (.bool false) (congrArg Value.bool (decide_eq_false fk5)) ?_
    have S77 : Sep w [box b2 [iv 0, iv 0] 40, box b1 [.slice none 0 0] 24] w14 := S20.sub (.cons _ (.cons _ (.cons _ (.cons _ (.cons _ (.cons _ (.cons _ (.cons _ (.cons _ (.cons _ (.cons_cons _ (.cons_cons _ (List.nil_sublist _)))))))))))))
    clear S20
    refine J.run 8 K14_76 ((127, iv (IntKind.wrap .i64 ((A.length : Int) - 1))) :: (14, iv 1) :: (13, .slice (some ⟨b10, 0, none⟩) 4 4) :: (12, pt b6) :: (11, pt b5) :: (10, iv ((x.size : Int) + 1)) :: (8, .slice la A.length lc) :: (6, iv i) :: (K14E0 i Pz b4 b3 b2 b1)) w14 (by kernel_rfl) ?_
    refine J.head (iv ((A.length : Int) - 1)) (congrArg (Value.int .i64) (IntWalk.i64_in _ (by omega))) ?_
    refine J.run 6 K14_77 ((132, .bool (decide (((A.length : Int) - 1) < 3))) :: (12, pt b6) :: (11, pt b5) :: (10, iv ((x.size : Int) + 1)) :: (8, .slice la A.length lc) :: (6, iv i) :: (K14E0 i Pz b4 b3 b2 b1)) w14 (by kernel_rfl) ?_
    have fk24 : ((A.length : Int) - 1) < 3 := by omega
    refine J.head (.bool true) (congrArg Value.bool (decide_eq_true fk24)) ?_
    refine J.run 6 K14_78 [(135, iv (IntKind.wrap .i64 (i + 1))), (133, .agg #[.slice none 0 0]), (10, iv ((x.size : Int) + 1)), (3, pt b2), (2, pt b1)] w14 (by kernel_rfl) ?_
    refine J.head (iv (i + 1)) (congrArg (Value.int .i64) (IntWalk.i64_in _ (by omega))) ?_
    refine J.run 2 K14_79 [(137, .agg #[iv (i + 1), iv ((x.size : Int) + 1)]), (133, .agg #[.slice none 0 0]), (3, pt b2), (2, pt b1)] w14 (by kernel_rfl) ?_
    refine J.stBox S77 1 24 0 (.agg #[.slice none 0 0]) [.slice none 0 0] [box b2 [iv 0, iv 0] 40, box b1 [.slice none 0 0] 24] (by kernel_rfl) rfl (by kernel_rfl) (by kernel_rfl) rfl ?_
    intro w41 S78
    refine J.stBox S78 0 40 0 (.agg #[iv (i + 1), iv ((x.size : Int) + 1)]) [iv (i + 1), iv ((x.size : Int) + 1)] [box b2 [iv (i + 1), iv ((x.size : Int) + 1)] 40, box b1 [.slice none 0 0] 24] (by kernel_rfl) rfl (by kernel_rfl) (by kernel_rfl) rfl ?_
    intro w42 S79
    refine J.run 2 K14_80 [(4, iv 4), (3, pt b2), (2, pt b1)] w42 (by kernel_rfl) ?_
    refine J.ret Tryd.f14 [.agg #[.slice none 0 0], .agg #[iv (i + 1), iv ((x.size : Int) + 1)], iv 4] Tryd.func14 ⟨⟨⟨b1, 0, none⟩, by kernel_rfl, ldV_run (S79.nth 1 rfl) (by kernel_rfl)⟩, ⟨⟨b2, 0, none⟩, by kernel_rfl, ldV_run (S79.nth 0 rfl) (by kernel_rfl)⟩, by kernel_rfl, trivial⟩ ?_
    refine hR _ _ ?_
    exact bad_post (bad_line hQ h0 (by omega) hx1 hL (by omega) hZl (rd_few hZ (by omega) (by decide))) S79
   refine J.head (.bool true) (congrArg Value.bool (decide_eq_true fk5)) ?_
   refine J.run 7 K14_24 ((99, iv 0) :: (97, iv 0) :: (96, iv ((A.length - 1 : Nat) : Int)) :: (95, .slice (subA la lc 1 1) (A.length - 1) (lc - 1)) :: (14, iv 1) :: (K14EF b10 b6 b5 x lb B ld la A lc i Pz b4 b3 b2 b1)) w14 (by kernel_rfl) ?_
   obtain ⟨p3, hp3, hc2⟩ := (ones_drop (row1_ones (S20.nth 5 rfl) _ rfl) lc 1 (by omega) (by omega)).at ByteArray.empty 0 (by omega)
   refine J.ok (OK.index 100 49 1 (subA la lc 1 1) p3 (A.length - 1) 0 0 (p3.add 0) (by kernel_rfl) (by kernel_rfl) hp3 (by omega) (by omega) (by rw [Nat.mul_one])) ?_
   refine J.ok (OK.ldCell 101 9 (p3.add 0) (.string ((A.drop 1).getD 0 ByteArray.empty)) (by kernel_rfl) (by kernel_rfl) hc2) ?_
   obtain ⟨u2, hu2⟩ : ∃ x : ByteArray, x = (A.drop 1).getD 0 ByteArray.empty := ⟨_, rfl⟩
   have e_u2 : u2 = wAt L 1 := by rw [hu2, hA]; exact fst_drop L 0
   have z_u2 : u2.size ≤ 1000000 := by rw [e_u2]; exact hws _
   refine J.head (.string u2) (congrArg Value.string hu2.symm) ?_
   refine J.run 12 K14_25 ((108, iv 0) :: (107, .slice (some ⟨b10, 0, none⟩) 4 4) :: (106, .bool false) :: (16, .string u2) :: (15, iv 0) :: (97, iv 0) :: (96, iv ((A.length - 1 : Nat) : Int)) :: (95, .slice (subA la lc 1 1) (A.length - 1) (lc - 1)) :: (14, iv 1) :: (K14EF b10 b6 b5 x lb B ld la A lc i Pz b4 b3 b2 b1)) w14 (by kernel_rfl) ?_
   refine J.ok (OK.index 109 81 1 (some ⟨b10, 0, none⟩) ⟨b10, 0, none⟩ 4 0 0 ⟨b10, 0, none⟩ (by kernel_rfl) (by kernel_rfl) rfl (by omega) (by omega) (by rfl)) ?_
   refine J.ok (OK.ldBox S20 1 110 82 0 (.func (.func 59) #[] #[pt b7]) (by kernel_rfl) rfl (by kernel_rfl)) ?_
   refine J.run 1 K14_26 ((111, .string u2) :: (110, .func (.func 59) #[] #[pt b7]) :: (106, .bool false) :: (15, iv 0) :: (97, iv 0) :: (96, iv ((A.length - 1 : Nat) : Int)) :: (95, .slice (subA la lc 1 1) (A.length - 1) (lc - 1)) :: (14, iv 1) :: (K14EF b10 b6 b5 x lb B ld la A lc i Pz b4 b3 b2 b1)) w14 (by kernel_rfl) ?_
   have S21 := S20.front 4 rfl
   clear S20
   refine J.callF 112 59 #[.string u2, pt b7] hb59 (by kernel_rfl) (text34_0 b5 b7 (.string ByteArray.empty) (iv 0) (iv 0) (.bool false) (.slice none 0 0) u2 _ _ _ S21) ?_
   rintro _ w15 ⟨rfl, S22⟩
   clear S21
   have S23 := S22.front 4 rfl
   clear S22
   have S24 := S23.front 4 rfl
   clear S23
   have S25 := S24.front 4 rfl
   clear S24
   have S26 : Sep w (box b5 [.string u2, iv 0, iv 0, .bool false, .slice none 0 0] 34 :: (K14TF b10 b7 b8 b9 b5 la lc A lb ld B ra rc out b4 Pz b3 b2 b1)) w15 := S25.front 4 rfl
   clear S25
   replace hZ : Z = rdS [1, 1, 2] 1 (L.drop 2) ((x.size : Int) + 1) := rd_ok hZ (by omega) (by rw [← e_u2]; exact rfl)
   refine J.run 11 K14_27 ((97, iv 1) :: (96, iv ((A.length - 1 : Nat) : Int)) :: (95, .slice (subA la lc 1 1) (A.length - 1) (lc - 1)) :: (14, iv 1) :: (K14EF b10 b6 b5 x lb B ld la A lc i Pz b4 b3 b2 b1)) w15 (by kernel_rfl) ?_
   refine J.run 5 K14_28 ((98, .bool (decide (1 < ((A.length - 1 : Nat) : Int)))) :: (97, iv 1) :: (96, iv ((A.length - 1 : Nat) : Int)) :: (95, .slice (subA la lc 1 1) (A.length - 1) (lc - 1)) :: (14, iv 1) :: (K14EF b10 b6 b5 x lb B ld la A lc i Pz b4 b3 b2 b1)) w15 (by kernel_rfl) ?_
   by_cases fk6 : 1 < ((A.length - 1 : Nat) : Int)
   rotate_left
   ·skip
    refine J.head (.bool false) (congrArg Value.bool (decide_eq_false fk6)) ?_
    have S74 : Sep w [box b2 [iv 0, iv 0] 40, box b1 [.slice none 0 0] 24] w15 := S26.sub (.cons _ (.cons _ (.cons _ (.cons _ (.cons _ (.cons _ (.cons _ (.cons _ (.cons _ (.cons _ (.cons_cons _ (.cons_cons _ (List.nil_sublist _)))))))))))))
    clear S26
    refine J.run 8 K14_71 ((127, iv (IntKind.wrap .i64 ((A.length : Int) - 1))) :: (14, iv 1) :: (13, .slice (some ⟨b10, 0, none⟩) 4 4) :: (12, pt b6) :: (11, pt b5) :: (10, iv ((x.size : Int) + 1)) :: (8, .slice la A.length lc) :: (6, iv i) :: (K14E0 i Pz b4 b3 b2 b1)) w15 (by kernel_rfl) ?_
    refine J.head (iv ((A.length : Int) - 1)) (congrArg (Value.int .i64) (IntWalk.i64_in _ (by omega))) ?_
    refine J.run 6 K14_72 ((132, .bool (decide (((A.length : Int) - 1) < 3))) :: (12, pt b6) :: (11, pt b5) :: (10, iv ((x.size : Int) + 1)) :: (8, .slice la A.length lc) :: (6, iv i) :: (K14E0 i Pz b4 b3 b2 b1)) w15 (by kernel_rfl) ?_
    have fk22 : ((A.length : Int) - 1) < 3 := by omega
    refine J.head (.bool true) (congrArg Value.bool (decide_eq_true fk22)) ?_
    refine J.run 6 K14_73 [(135, iv (IntKind.wrap .i64 (i + 1))), (133, .agg #[.slice none 0 0]), (10, iv ((x.size : Int) + 1)), (3, pt b2), (2, pt b1)] w15 (by kernel_rfl) ?_
    refine J.head (iv (i + 1)) (congrArg (Value.int .i64) (IntWalk.i64_in _ (by omega))) ?_
    refine J.run 2 K14_74 [(137, .agg #[iv (i + 1), iv ((x.size : Int) + 1)]), (133, .agg #[.slice none 0 0]), (3, pt b2), (2, pt b1)] w15 (by kernel_rfl) ?_
    refine J.stBox S74 1 24 0 (.agg #[.slice none 0 0]) [.slice none 0 0] [box b2 [iv 0, iv 0] 40, box b1 [.slice none 0 0] 24] (by kernel_rfl) rfl (by kernel_rfl) (by kernel_rfl) rfl ?_
    intro w39 S75
    refine J.stBox S75 0 40 0 (.agg #[iv (i + 1), iv ((x.size : Int) + 1)]) [iv (i + 1), iv ((x.size : Int) + 1)] [box b2 [iv (i + 1), iv ((x.size : Int) + 1)] 40, box b1 [.slice none 0 0] 24] (by kernel_rfl) rfl (by kernel_rfl) (by kernel_rfl) rfl ?_
    intro w40 S76
    refine J.run 2 K14_75 [(4, iv 4), (3, pt b2), (2, pt b1)] w40 (by kernel_rfl) ?_
    refine J.ret Tryd.f14 [.agg #[.slice none 0 0], .agg #[iv (i + 1), iv ((x.size : Int) + 1)], iv 4] Tryd.func14 ⟨⟨⟨b1, 0, none⟩, by kernel_rfl, ldV_run (S76.nth 1 rfl) (by kernel_rfl)⟩, ⟨⟨b2, 0, none⟩, by kernel_rfl, ldV_run (S76.nth 0 rfl) (by kernel_rfl)⟩, by kernel_rfl, trivial⟩ ?_
    refine hR _ _ ?_
    exact bad_post (bad_line hQ h0 (by omega) hx1 hL (by omega) hZl (rd_few hZ (by omega) (by decide))) S76
   refine J.head (.bool true) (congrArg Value.bool (decide_eq_true fk6)) ?_
   refine J.run 7 K14_29 ((99, iv 1) :: (97, iv 1) :: (96, iv ((A.length - 1 : Nat) : Int)) :: (95, .slice (subA la lc 1 1) (A.length - 1) (lc - 1)) :: (14, iv 1) :: (K14EF b10 b6 b5 x lb B ld la A lc i Pz b4 b3 b2 b1)) w15 (by kernel_rfl) ?_
   obtain ⟨p4, hp4, hc3⟩ := (ones_drop (row1_ones (S26.nth 5 rfl) _ rfl) lc 1 (by omega) (by omega)).at ByteArray.empty 1 (by omega)
   refine J.ok (OK.index 100 49 1 (subA la lc 1 1) p4 (A.length - 1) 1 1 (p4.add 1) (by kernel_rfl) (by kernel_rfl) hp4 (by omega) (by omega) (by rw [Nat.mul_one])) ?_
   refine J.ok (OK.ldCell 101 9 (p4.add 1) (.string ((A.drop 1).getD 1 ByteArray.empty)) (by kernel_rfl) (by kernel_rfl) hc3) ?_
   obtain ⟨u3, hu3⟩ : ∃ x : ByteArray, x = (A.drop 1).getD 1 ByteArray.empty := ⟨_, rfl⟩
   have e_u3 : u3 = wAt L 2 := by rw [hu3, hA]; exact fst_drop L 1
   have z_u3 : u3.size ≤ 1000000 := by rw [e_u3]; exact hws _
   refine J.head (.string u3) (congrArg Value.string hu3.symm) ?_
   refine J.run 12 K14_30 ((108, iv 1) :: (107, .slice (some ⟨b10, 0, none⟩) 4 4) :: (106, .bool false) :: (16, .string u3) :: (15, iv 1) :: (97, iv 1) :: (96, iv ((A.length - 1 : Nat) : Int)) :: (95, .slice (subA la lc 1 1) (A.length - 1) (lc - 1)) :: (14, iv 1) :: (K14EF b10 b6 b5 x lb B ld la A lc i Pz b4 b3 b2 b1)) w15 (by kernel_rfl) ?_
   refine J.ok (OK.index 109 81 1 (some ⟨b10, 0, none⟩) ⟨b10, 0, none⟩ 4 1 1 ⟨b10, 1, none⟩ (by kernel_rfl) (by kernel_rfl) rfl (by omega) (by omega) (by rfl)) ?_
   refine J.ok (OK.ldBox S26 1 110 82 1 (.func (.func 60) #[] #[pt b8]) (by kernel_rfl) rfl (by kernel_rfl)) ?_
   refine J.run 1 K14_31 ((111, .string u3) :: (110, .func (.func 60) #[] #[pt b8]) :: (106, .bool false) :: (15, iv 1) :: (97, iv 1) :: (96, iv ((A.length - 1 : Nat) : Int)) :: (95, .slice (subA la lc 1 1) (A.length - 1) (lc - 1)) :: (14, iv 1) :: (K14EF b10 b6 b5 x lb B ld la A lc i Pz b4 b3 b2 b1)) w15 (by kernel_rfl) ?_
   have S27 := S26.front 3 rfl
   clear S26
   refine J.callF 112 60 #[.string u3, pt b8] hb60 (by kernel_rfl) (number34_1 b5 b8 (.string u2) (iv 0) (iv 0) (.bool false) (.slice none 0 0) u3 _ _ _ S27 (by first | omega | exact hws _) hW) ?_
   rintro _ w16 ⟨rfl, S28⟩
   clear S27
   have S29 := S28.front 3 rfl
   clear S28
   have S30 := S29.front 3 rfl
   clear S29
   have S31 : Sep w (box b5 [.string u2, iv (parX u3), iv 0, .bool false, .slice none 0 0] 34 :: (K14TF b10 b7 b8 b9 b5 la lc A lb ld B ra rc out b4 Pz b3 b2 b1)) w16 := S30.front 3 rfl
   clear S30
   refine J.run 3 K14_32 ((114, .bool (!(numOk u3))) :: (15, iv 1) :: (97, iv 1) :: (96, iv ((A.length - 1 : Nat) : Int)) :: (95, .slice (subA la lc 1 1) (A.length - 1) (lc - 1)) :: (14, iv 1) :: (K14EF b10 b6 b5 x lb B ld la A lc i Pz b4 b3 b2 b1)) w16 (by kernel_rfl) ?_
   rcases Bool.eq_false_or_eq_true (numOk u3) with fk7 | fk7
   rotate_left
   ·skip
    refine J.head (.bool true) (congrArg Value.bool (by rw [fk7]; rfl)) ?_
    have hbad := rd_bad hZ (by omega) (by rw [← e_u3]; exact fk7)
    have S70 : Sep w [rowOf Eng.encI lb ld 3 1 B, box b2 [iv 0, iv 0] 40, box b1 [.slice none 0 0] 24] w16 := S31.sub (.cons _ (.cons _ (.cons _ (.cons _ (.cons _ (.cons _ (.cons_cons _ (.cons _ (.cons _ (.cons _ (.cons_cons _ (.cons_cons _ (List.nil_sublist _)))))))))))))
    clear S31
    refine J.run 2 K14_70 [(15, iv 1), (9, .slice lb B.length ld), (6, iv i), (3, pt b2), (2, pt b1)] w16 (by kernel_rfl) ?_
    obtain ⟨p11, hp11⟩ := row1_addr (S70.nth 0 rfl) (show 0 < (B).length by first | omega | (simp; omega))
    refine J.drawPlan (fun w_ => Sep w [rowOf Eng.encI lb ld 3 1 B, box b1 [.slice none 0 0] 24] w_) [(0, true), (1, true), (2, true), (3, true), (4, true), (5, true), (6, true), (7, true), (8, true), (9, false), (10, false), (11, true)] S70 Tryd.mixed (by kernel_rfl) (planOK_of (T := [(0, some 115, 0), (0, some 116, 64), (2, some 117, 83076749736557242056487941267521536), (0, some 118, 512), (0, some 119, 32768), (16, some 120, 664613997892457936451903530140172288), (40, some 121, 1661534994731144841129758825350430720), (64, some 122, 2658455991569831745807614120560689152), (132, some 123, 5483065482612777975728204123656421376), (1, none, 41538374868278621028243970633760772), (1023, none, 10633823966279326983230456482242756616), (2047, some 4, 0)]) (by kernel_rfl) (by kernel_rfl)) ?_
    intro w36 S71
    refine PB.mk (S71.erase 1) ?_
    refine PL.take 0 115 (.agg #[.slice none 0 0]) (fun _ _ => by kernel_rfl) ?_
    refine PL.take 1 116 (iv i) (fun _ _ => by kernel_rfl) ?_
    refine PL.take 2 117 (iv (IntKind.wrap .i64 (i + 1))) (fun _ _ => by kernel_rfl) ?_
    refine PL.head (iv (i + 1)) (congrArg (Value.int .i64) (IntWalk.i64_in _ (by omega))) ?_
    refine PL.take 3 118 (.slice lb B.length ld) (fun _ _ => by kernel_rfl) ?_
    refine PL.take 4 119 (iv 1) (fun _ _ => by kernel_rfl) ?_
    refine PL.take 5 120 (iv 2) (fun _ _ => by kernel_rfl) ?_
    refine PL.takeOK 6 (fun w_ S_ => OK.index 121 59 1 lb p11 B.length 2 2 (p11.add 2) (by kernel_rfl) (by kernel_rfl) hp11 (by omega) (by first | omega | (simp; omega)) (by rw [Nat.mul_one])) rfl ?_
    refine PL.takeOK 7 (fun w_ S_ => OK.ldCell 122 3 (p11.add 2) (iv (B.getD 2 0)) (by kernel_rfl) (by kernel_rfl) (row1_cell (g := (Value.int .i64)) S_ 0 rfl hp11 0 2 (by first | omega | (simp; omega)))) rfl ?_
    refine PL.take 8 123 (.agg #[iv (i + 1), iv (B.getD 2 0)]) (fun _ _ => by kernel_rfl) ?_
    refine PL.stBox S71 2 24 0 (.agg #[.slice none 0 0]) [.slice none 0 0] [rowOf Eng.encI lb ld 3 1 B, box b2 [iv 0, iv 0] 40, box b1 [.slice none 0 0] 24] (by kernel_rfl) rfl (by kernel_rfl) (by kernel_rfl) rfl ?_
    intro w37 S72
    refine PB.mk (S72.erase 1) ?_
    refine PL.stBox S72 1 40 0 (.agg #[iv (i + 1), iv (B.getD 2 0)]) [iv (i + 1), iv (B.getD 2 0)] [rowOf Eng.encI lb ld 3 1 B, box b2 [iv (i + 1), iv (B.getD 2 0)] 40, box b1 [.slice none 0 0] 24] (by kernel_rfl) rfl (by kernel_rfl) (by kernel_rfl) rfl ?_
    intro w38 S73
    refine PB.mk (S73.erase 1) ?_
    refine PL.take 11 4 (iv 3) (fun _ _ => by kernel_rfl) ?_
    refine PL.done ?_
    refine J.run 0 (rRest K14_70) [(4, iv 3), (3, pt b2), (2, pt b1)] w38 (by kernel_rfl) ?_
    refine J.ret Tryd.f14 [.agg #[.slice none 0 0], .agg #[iv (i + 1), iv (B.getD 2 0)], iv 3] Tryd.func14 ⟨⟨⟨b1, 0, none⟩, by kernel_rfl, ldV_run (S73.nth 2 rfl) (by kernel_rfl)⟩, ⟨⟨b2, 0, none⟩, by kernel_rfl, ldV_run (S73.nth 1 rfl) (by kernel_rfl)⟩, by kernel_rfl, trivial⟩ ?_
    refine hR _ _ ?_
    rw [show B.getD 2 0 = (L.getD 2 wd0).2 from by rw [hB]; exact snd_at L 2]
    exact bad_post (bad_line hQ h0 (by omega) hx1 hL (by omega) hZl hbad) S73
   refine J.head (.bool false) (congrArg Value.bool (by rw [fk7]; rfl)) ?_
   replace hZ : Z = rdS [1, 2] 1 (L.drop 3) ((x.size : Int) + 1) := rd_ok hZ (by omega) (by rw [← e_u3]; exact fk7)
   refine J.run 8 K14_33 ((97, iv 2) :: (96, iv ((A.length - 1 : Nat) : Int)) :: (95, .slice (subA la lc 1 1) (A.length - 1) (lc - 1)) :: (14, iv 1) :: (K14EF b10 b6 b5 x lb B ld la A lc i Pz b4 b3 b2 b1)) w16 (by kernel_rfl) ?_
   refine J.run 5 K14_34 ((98, .bool (decide (2 < ((A.length - 1 : Nat) : Int)))) :: (97, iv 2) :: (96, iv ((A.length - 1 : Nat) : Int)) :: (95, .slice (subA la lc 1 1) (A.length - 1) (lc - 1)) :: (14, iv 1) :: (K14EF b10 b6 b5 x lb B ld la A lc i Pz b4 b3 b2 b1)) w16 (by kernel_rfl) ?_
   by_cases fk8 : 2 < ((A.length - 1 : Nat) : Int)
   rotate_left
   ·skip
    refine J.head (.bool false) (congrArg Value.bool (decide_eq_false fk8)) ?_
    have S67 : Sep w [box b2 [iv 0, iv 0] 40, box b1 [.slice none 0 0] 24] w16 := S31.sub (.cons _ (.cons _ (.cons _ (.cons _ (.cons _ (.cons _ (.cons _ (.cons _ (.cons _ (.cons _ (.cons_cons _ (.cons_cons _ (List.nil_sublist _)))))))))))))
    clear S31
    refine J.run 8 K14_65 ((127, iv (IntKind.wrap .i64 ((A.length : Int) - 1))) :: (14, iv 1) :: (13, .slice (some ⟨b10, 0, none⟩) 4 4) :: (12, pt b6) :: (11, pt b5) :: (10, iv ((x.size : Int) + 1)) :: (8, .slice la A.length lc) :: (6, iv i) :: (K14E0 i Pz b4 b3 b2 b1)) w16 (by kernel_rfl) ?_
    refine J.head (iv ((A.length : Int) - 1)) (congrArg (Value.int .i64) (IntWalk.i64_in _ (by omega))) ?_
    refine J.run 6 K14_66 ((132, .bool (decide (((A.length : Int) - 1) < 3))) :: (12, pt b6) :: (11, pt b5) :: (10, iv ((x.size : Int) + 1)) :: (8, .slice la A.length lc) :: (6, iv i) :: (K14E0 i Pz b4 b3 b2 b1)) w16 (by kernel_rfl) ?_
    have fk20 : ((A.length : Int) - 1) < 3 := by omega
    refine J.head (.bool true) (congrArg Value.bool (decide_eq_true fk20)) ?_
    refine J.run 6 K14_67 [(135, iv (IntKind.wrap .i64 (i + 1))), (133, .agg #[.slice none 0 0]), (10, iv ((x.size : Int) + 1)), (3, pt b2), (2, pt b1)] w16 (by kernel_rfl) ?_
    refine J.head (iv (i + 1)) (congrArg (Value.int .i64) (IntWalk.i64_in _ (by omega))) ?_
    refine J.run 2 K14_68 [(137, .agg #[iv (i + 1), iv ((x.size : Int) + 1)]), (133, .agg #[.slice none 0 0]), (3, pt b2), (2, pt b1)] w16 (by kernel_rfl) ?_
    refine J.stBox S67 1 24 0 (.agg #[.slice none 0 0]) [.slice none 0 0] [box b2 [iv 0, iv 0] 40, box b1 [.slice none 0 0] 24] (by kernel_rfl) rfl (by kernel_rfl) (by kernel_rfl) rfl ?_
    intro w34 S68
    refine J.stBox S68 0 40 0 (.agg #[iv (i + 1), iv ((x.size : Int) + 1)]) [iv (i + 1), iv ((x.size : Int) + 1)] [box b2 [iv (i + 1), iv ((x.size : Int) + 1)] 40, box b1 [.slice none 0 0] 24] (by kernel_rfl) rfl (by kernel_rfl) (by kernel_rfl) rfl ?_
    intro w35 S69
    refine J.run 2 K14_69 [(4, iv 4), (3, pt b2), (2, pt b1)] w35 (by kernel_rfl) ?_
    refine J.ret Tryd.f14 [.agg #[.slice none 0 0], .agg #[iv (i + 1), iv ((x.size : Int) + 1)], iv 4] Tryd.func14 ⟨⟨⟨b1, 0, none⟩, by kernel_rfl, ldV_run (S69.nth 1 rfl) (by kernel_rfl)⟩, ⟨⟨b2, 0, none⟩, by kernel_rfl, ldV_run (S69.nth 0 rfl) (by kernel_rfl)⟩, by kernel_rfl, trivial⟩ ?_
    refine hR _ _ ?_
    exact bad_post (bad_line hQ h0 (by omega) hx1 hL (by omega) hZl (rd_few hZ (by omega) (by decide))) S69
   refine J.head (.bool true) (congrArg Value.bool (decide_eq_true fk8)) ?_
   refine J.run 7 K14_35 ((99, iv 2) :: (97, iv 2) :: (96, iv ((A.length - 1 : Nat) : Int)) :: (95, .slice (subA la lc 1 1) (A.length - 1) (lc - 1)) :: (14, iv 1) :: (K14EF b10 b6 b5 x lb B ld la A lc i Pz b4 b3 b2 b1)) w16 (by kernel_rfl) ?_
   obtain ⟨p5, hp5, hc4⟩ := (ones_drop (row1_ones (S31.nth 5 rfl) _ rfl) lc 1 (by omega) (by omega)).at ByteArray.empty 2 (by omega)
   refine J.ok (OK.index 100 49 1 (subA la lc 1 1) p5 (A.length - 1) 2 2 (p5.add 2) (by kernel_rfl) (by kernel_rfl) hp5 (by omega) (by omega) (by rw [Nat.mul_one])) ?_
   refine J.ok (OK.ldCell 101 9 (p5.add 2) (.string ((A.drop 1).getD 2 ByteArray.empty)) (by kernel_rfl) (by kernel_rfl) hc4) ?_
   obtain ⟨u4, hu4⟩ : ∃ x : ByteArray, x = (A.drop 1).getD 2 ByteArray.empty := ⟨_, rfl⟩
   have e_u4 : u4 = wAt L 3 := by rw [hu4, hA]; exact fst_drop L 2
   have z_u4 : u4.size ≤ 1000000 := by rw [e_u4]; exact hws _
   refine J.head (.string u4) (congrArg Value.string hu4.symm) ?_
   refine J.run 12 K14_36 ((108, iv 2) :: (107, .slice (some ⟨b10, 0, none⟩) 4 4) :: (106, .bool false) :: (16, .string u4) :: (15, iv 2) :: (97, iv 2) :: (96, iv ((A.length - 1 : Nat) : Int)) :: (95, .slice (subA la lc 1 1) (A.length - 1) (lc - 1)) :: (14, iv 1) :: (K14EF b10 b6 b5 x lb B ld la A lc i Pz b4 b3 b2 b1)) w16 (by kernel_rfl) ?_
   refine J.ok (OK.index 109 81 1 (some ⟨b10, 0, none⟩) ⟨b10, 0, none⟩ 4 2 2 ⟨b10, 2, none⟩ (by kernel_rfl) (by kernel_rfl) rfl (by omega) (by omega) (by rfl)) ?_
   refine J.ok (OK.ldBox S31 1 110 82 2 (.func (.func 60) #[] #[pt b9]) (by kernel_rfl) rfl (by kernel_rfl)) ?_
   refine J.run 1 K14_37 ((111, .string u4) :: (110, .func (.func 60) #[] #[pt b9]) :: (106, .bool false) :: (15, iv 2) :: (97, iv 2) :: (96, iv ((A.length - 1 : Nat) : Int)) :: (95, .slice (subA la lc 1 1) (A.length - 1) (lc - 1)) :: (14, iv 1) :: (K14EF b10 b6 b5 x lb B ld la A lc i Pz b4 b3 b2 b1)) w16 (by kernel_rfl) ?_
   have S32 := S31.front 2 rfl
   clear S31
   refine J.callF 112 60 #[.string u4, pt b9] hb60 (by kernel_rfl) (number34_2 b5 b9 (.string u2) (iv (parX u3)) (iv 0) (.bool false) (.slice none 0 0) u4 _ _ _ S32 (by first | omega | exact hws _) hW) ?_
   rintro _ w17 ⟨rfl, S33⟩
   clear S32
   have S34 := S33.front 2 rfl
   clear S33
   have S35 : Sep w (box b5 [.string u2, iv (parX u3), iv (parX u4), .bool false, .slice none 0 0] 34 :: (K14TF b10 b7 b8 b9 b5 la lc A lb ld B ra rc out b4 Pz b3 b2 b1)) w17 := S34.front 2 rfl
   clear S34
   refine J.run 3 K14_38 ((114, .bool (!(numOk u4))) :: (15, iv 2) :: (97, iv 2) :: (96, iv ((A.length - 1 : Nat) : Int)) :: (95, .slice (subA la lc 1 1) (A.length - 1) (lc - 1)) :: (14, iv 1) :: (K14EF b10 b6 b5 x lb B ld la A lc i Pz b4 b3 b2 b1)) w17 (by kernel_rfl) ?_
   rcases Bool.eq_false_or_eq_true (numOk u4) with fk9 | fk9
   rotate_left
   ·skip
    refine J.head (.bool true) (congrArg Value.bool (by rw [fk9]; rfl)) ?_
    have hbad := rd_bad hZ (by omega) (by rw [← e_u4]; exact fk9)
    have S63 : Sep w [rowOf Eng.encI lb ld 3 1 B, box b2 [iv 0, iv 0] 40, box b1 [.slice none 0 0] 24] w17 := S35.sub (.cons _ (.cons _ (.cons _ (.cons _ (.cons _ (.cons _ (.cons_cons _ (.cons _ (.cons _ (.cons _ (.cons_cons _ (.cons_cons _ (List.nil_sublist _)))))))))))))
    clear S35
    refine J.run 2 K14_64 [(15, iv 2), (9, .slice lb B.length ld), (6, iv i), (3, pt b2), (2, pt b1)] w17 (by kernel_rfl) ?_
    obtain ⟨p10, hp10⟩ := row1_addr (S63.nth 0 rfl) (show 0 < (B).length by first | omega | (simp; omega))
    refine J.drawPlan (fun w_ => Sep w [rowOf Eng.encI lb ld 3 1 B, box b1 [.slice none 0 0] 24] w_) [(0, true), (1, true), (2, true), (3, true), (4, true), (5, true), (6, true), (7, true), (8, true), (9, false), (10, false), (11, true)] S63 Tryd.mixed (by kernel_rfl) (planOK_of (T := [(0, some 115, 0), (0, some 116, 64), (2, some 117, 83076749736557242056487941267521536), (0, some 118, 512), (0, some 119, 32768), (16, some 120, 664613997892457936451903530140172288), (40, some 121, 1661534994731144841129758825350430720), (64, some 122, 2658455991569831745807614120560689152), (132, some 123, 5483065482612777975728204123656421376), (1, none, 41538374868278621028243970633760772), (1023, none, 10633823966279326983230456482242756616), (2047, some 4, 0)]) (by kernel_rfl) (by kernel_rfl)) ?_
    intro w31 S64
    refine PB.mk (S64.erase 1) ?_
    refine PL.take 0 115 (.agg #[.slice none 0 0]) (fun _ _ => by kernel_rfl) ?_
    refine PL.take 1 116 (iv i) (fun _ _ => by kernel_rfl) ?_
    refine PL.take 2 117 (iv (IntKind.wrap .i64 (i + 1))) (fun _ _ => by kernel_rfl) ?_
    refine PL.head (iv (i + 1)) (congrArg (Value.int .i64) (IntWalk.i64_in _ (by omega))) ?_
    refine PL.take 3 118 (.slice lb B.length ld) (fun _ _ => by kernel_rfl) ?_
    refine PL.take 4 119 (iv 2) (fun _ _ => by kernel_rfl) ?_
    refine PL.take 5 120 (iv 3) (fun _ _ => by kernel_rfl) ?_
    refine PL.takeOK 6 (fun w_ S_ => OK.index 121 59 1 lb p10 B.length 3 3 (p10.add 3) (by kernel_rfl) (by kernel_rfl) hp10 (by omega) (by first | omega | (simp; omega)) (by rw [Nat.mul_one])) rfl ?_
    refine PL.takeOK 7 (fun w_ S_ => OK.ldCell 122 3 (p10.add 3) (iv (B.getD 3 0)) (by kernel_rfl) (by kernel_rfl) (row1_cell (g := (Value.int .i64)) S_ 0 rfl hp10 0 3 (by first | omega | (simp; omega)))) rfl ?_
    refine PL.take 8 123 (.agg #[iv (i + 1), iv (B.getD 3 0)]) (fun _ _ => by kernel_rfl) ?_
    refine PL.stBox S64 2 24 0 (.agg #[.slice none 0 0]) [.slice none 0 0] [rowOf Eng.encI lb ld 3 1 B, box b2 [iv 0, iv 0] 40, box b1 [.slice none 0 0] 24] (by kernel_rfl) rfl (by kernel_rfl) (by kernel_rfl) rfl ?_
    intro w32 S65
    refine PB.mk (S65.erase 1) ?_
    refine PL.stBox S65 1 40 0 (.agg #[iv (i + 1), iv (B.getD 3 0)]) [iv (i + 1), iv (B.getD 3 0)] [rowOf Eng.encI lb ld 3 1 B, box b2 [iv (i + 1), iv (B.getD 3 0)] 40, box b1 [.slice none 0 0] 24] (by kernel_rfl) rfl (by kernel_rfl) (by kernel_rfl) rfl ?_
    intro w33 S66
    refine PB.mk (S66.erase 1) ?_
    refine PL.take 11 4 (iv 3) (fun _ _ => by kernel_rfl) ?_
    refine PL.done ?_
    refine J.run 0 (rRest K14_64) [(4, iv 3), (3, pt b2), (2, pt b1)] w33 (by kernel_rfl) ?_
    refine J.ret Tryd.f14 [.agg #[.slice none 0 0], .agg #[iv (i + 1), iv (B.getD 3 0)], iv 3] Tryd.func14 ⟨⟨⟨b1, 0, none⟩, by kernel_rfl, ldV_run (S66.nth 2 rfl) (by kernel_rfl)⟩, ⟨⟨b2, 0, none⟩, by kernel_rfl, ldV_run (S66.nth 1 rfl) (by kernel_rfl)⟩, by kernel_rfl, trivial⟩ ?_
    refine hR _ _ ?_
    rw [show B.getD 3 0 = (L.getD 3 wd0).2 from by rw [hB]; exact snd_at L 3]
    exact bad_post (bad_line hQ h0 (by omega) hx1 hL (by omega) hZl hbad) S66
   refine J.head (.bool false) (congrArg Value.bool (by rw [fk9]; rfl)) ?_
   replace hZ : Z = rdS [2] 1 (L.drop 4) ((x.size : Int) + 1) := rd_ok hZ (by omega) (by rw [← e_u4]; exact fk9)
   refine J.run 8 K14_39 ((97, iv 3) :: (96, iv ((A.length - 1 : Nat) : Int)) :: (95, .slice (subA la lc 1 1) (A.length - 1) (lc - 1)) :: (14, iv 1) :: (K14EF b10 b6 b5 x lb B ld la A lc i Pz b4 b3 b2 b1)) w17 (by kernel_rfl) ?_
   refine J.run 5 K14_40 ((98, .bool (decide (3 < ((A.length - 1 : Nat) : Int)))) :: (97, iv 3) :: (96, iv ((A.length - 1 : Nat) : Int)) :: (95, .slice (subA la lc 1 1) (A.length - 1) (lc - 1)) :: (14, iv 1) :: (K14EF b10 b6 b5 x lb B ld la A lc i Pz b4 b3 b2 b1)) w17 (by kernel_rfl) ?_
   by_cases fk10 : 3 < ((A.length - 1 : Nat) : Int)
   rotate_left
   ·skip
    refine J.head (.bool false) (congrArg Value.bool (decide_eq_false fk10)) ?_
    have S54 : Sep w (box b5 [.string u2, iv (parX u3), iv (parX u4), .bool false, .slice none 0 0] 34 :: rowOf (enc1 Value.string) la lc 9 1 A :: rowOf frmE ra rc 34 5 out :: box b4 (Pz.map Value.string) 9 :: box b3 [.slice ra out.length rc] 24 :: box b2 [iv 0, iv 0] 40 :: box b1 [.slice none 0 0] 24 :: tlF out) w17 := S35.sub (.cons_cons _ (.cons _ (.cons _ (.cons _ (.cons _ (.cons_cons _ (.cons _ (.cons_cons _ (.cons_cons _ (.cons_cons _ (.cons_cons _ (.cons_cons _ (List.Sublist.refl _)))))))))))))
    clear S35
    refine J.run 8 K14_57 ((127, iv (IntKind.wrap .i64 ((A.length : Int) - 1))) :: (14, iv 1) :: (13, .slice (some ⟨b10, 0, none⟩) 4 4) :: (12, pt b6) :: (11, pt b5) :: (10, iv ((x.size : Int) + 1)) :: (8, .slice la A.length lc) :: (6, iv i) :: (K14E0 i Pz b4 b3 b2 b1)) w17 (by kernel_rfl) ?_
    refine J.head (iv ((A.length : Int) - 1)) (congrArg (Value.int .i64) (IntWalk.i64_in _ (by omega))) ?_
    refine J.run 6 K14_58 ((132, .bool (decide (((A.length : Int) - 1) < 3))) :: (12, pt b6) :: (11, pt b5) :: (10, iv ((x.size : Int) + 1)) :: (8, .slice la A.length lc) :: (6, iv i) :: (K14E0 i Pz b4 b3 b2 b1)) w17 (by kernel_rfl) ?_
    have fk17 : ¬ (((A.length : Int) - 1) < 3) := by omega
    refine J.head (.bool false) (congrArg Value.bool (decide_eq_false fk17)) ?_
    refine J.run 5 K14_59 ((138, .slice la A.length lc) :: (12, pt b6) :: (11, pt b5) :: (K14E0 i Pz b4 b3 b2 b1)) w17 (by kernel_rfl) ?_
    refine J.ok (OK.index 139 49 1 la p2 A.length 0 0 (p2.add 0) (by kernel_rfl) (by kernel_rfl) hp2 (by omega) (by first | omega | (simp; omega)) (by rw [Nat.mul_one])) ?_
    refine J.ok (OK.ldCell 140 9 (p2.add 0) (.string (A.getD 0 ByteArray.empty)) (by kernel_rfl) (by kernel_rfl) (row1_cell (g := Value.string) S54 1 rfl hp2 ByteArray.empty 0 (by first | omega | (simp; omega)))) ?_
    refine J.head (.string u1) (congrArg Value.string hu1.symm) ?_
    refine J.run 2 K14_60 ((141, .bool (u1.toList == WFr.toList)) :: (12, pt b6) :: (11, pt b5) :: (K14E0 i Pz b4 b3 b2 b1)) w17 (by kernel_rfl) ?_
    refine J.head (.bool true) (congrArg Value.bool fk4) ?_
    refine J.run 3 K14_61 ((142, pt b3) :: (11, pt b5) :: (K14E0 i Pz b4 b3 b2 b1)) w17 (by kernel_rfl) ?_
    refine J.ok (OK.ldBox S54 4 143 22 0 (.slice ra out.length rc) (by kernel_rfl) rfl (by kernel_rfl)) ?_
    refine J.ok (OK.ldBox S54 0 144 34 0 (.agg #[.string u2, iv (parX u3), iv (parX u4), .bool false, .slice none 0 0]) (by kernel_rfl) rfl (by kernel_rfl)) ?_
    refine J.newSlice S54 145 1 [.string u2, iv (parX u3), iv (parX u4), .bool false, .slice none 0 0] 34 (by kernel_rfl) ?_
    intro b12 w28 S55
    refine J.append frmE S55 3 out (⟨u2, parX u3, parX u4, false, none, 0, 0, []⟩ : Frm) 146 22 (.agg #[.string ByteArray.empty, iv 0, iv 0, .bool false, .slice none 0 0]) 64 ⟨b12, 0, none⟩ 1 rfl (by kernel_rfl) (by kernel_rfl) (by kernel_rfl) (by kernel_rfl) (by decide) (box_cells (S55.nth 0 rfl)) (by kernel_rfl) (by kernel_rfl) (⟨by omega, by omega⟩) ?_
    intro ra2 rc2 w29 S56
    replace S56 : Sep w (box b12 [.string u2, iv (parX u3), iv (parX u4), .bool false, .slice none 0 0] 34 :: box b5 [.string u2, iv (parX u3), iv (parX u4), .bool false, .slice none 0 0] 34 :: rowOf (enc1 Value.string) la lc 9 1 A :: rowOf frmE ra2 rc2 34 5 (out ++ [(⟨u2, parX u3, parX u4, false, none, 0, 0, []⟩ : Frm)]) :: box b4 (Pz.map Value.string) 9 :: box b3 [.slice ra out.length rc] 24 :: box b2 [iv 0, iv 0] 40 :: box b1 [.slice none 0 0] 24 :: tlF out) w29 := S56
    have S57 : Sep w (box b5 [.string u2, iv (parX u3), iv (parX u4), .bool false, .slice none 0 0] 34 :: rowOf (enc1 Value.string) la lc 9 1 A :: rowOf frmE ra2 rc2 34 5 (out ++ [(⟨u2, parX u3, parX u4, false, none, 0, 0, []⟩ : Frm)]) :: box b4 (Pz.map Value.string) 9 :: box b3 [.slice ra out.length rc] 24 :: box b2 [iv 0, iv 0] 40 :: box b1 [.slice none 0 0] 24 :: tlF out) w29 := S56.erase 0
    clear S56
    have S58 := S57.nilRow 57 10
    have S59 : Sep w (box b5 [.string u2, iv (parX u3), iv (parX u4), .bool false, .slice none 0 0] 34 :: rowOf (enc1 Value.string) la lc 9 1 A :: rowOf frmE ra2 rc2 34 5 (out ++ [(⟨u2, parX u3, parX u4, false, none, 0, 0, []⟩ : Frm)]) :: box b4 (Pz.map Value.string) 9 :: box b3 [.slice ra out.length rc] 24 :: box b2 [iv 0, iv 0] 40 :: box b1 [.slice none 0 0] 24 :: tlF (out ++ [(⟨u2, parX u3, parX u4, false, none, 0, 0, []⟩ : Frm)])) w29 := by rw [tlF_snoc]; exact S58.back 7
    clear S58
    refine J.run 1 K14_62 ((147, pt b3) :: (146, .slice ra2 ((out ++ [(⟨u2, parX u3, parX u4, false, none, 0, 0, []⟩ : Frm)]).length) rc2) :: (K14E0 i Pz b4 b3 b2 b1)) w29 (by kernel_rfl) ?_
    refine J.stBox S59 4 22 0 (.slice ra2 ((out ++ [(⟨u2, parX u3, parX u4, false, none, 0, 0, []⟩ : Frm)]).length) rc2) [.slice ra2 ((out ++ [(⟨u2, parX u3, parX u4, false, none, 0, 0, []⟩ : Frm)]).length) rc2] (box b5 [.string u2, iv (parX u3), iv (parX u4), .bool false, .slice none 0 0] 34 :: rowOf (enc1 Value.string) la lc 9 1 A :: rowOf frmE ra2 rc2 34 5 (out ++ [(⟨u2, parX u3, parX u4, false, none, 0, 0, []⟩ : Frm)]) :: box b4 (Pz.map Value.string) 9 :: box b3 [.slice ra2 ((out ++ [(⟨u2, parX u3, parX u4, false, none, 0, 0, []⟩ : Frm)]).length) rc2] 24 :: box b2 [iv 0, iv 0] 40 :: box b1 [.slice none 0 0] 24 :: tlF (out ++ [(⟨u2, parX u3, parX u4, false, none, 0, 0, []⟩ : Frm)])) (by kernel_rfl) rfl (by kernel_rfl) (by kernel_rfl) rfl ?_
    intro w30 S60
    refine J.run 4 K14_63 [(165, iv (IntKind.wrap .i64 (i + 1))), (27, iv (Pz.length : Int)), (26, .slice (some ⟨b4, 0, none⟩) Pz.length Pz.length), (5, pt b3), (3, pt b2), (2, pt b1)] w30 (by kernel_rfl) ?_
    refine J.head (iv (i + 1)) (congrArg (Value.int .i64) (IntWalk.i64_in _ (by omega))) ?_
    refine J.run 3 K14_6 [(28, iv (i + 1)), (27, iv (Pz.length : Int)), (26, .slice (some ⟨b4, 0, none⟩) Pz.length Pz.length), (5, pt b3), (3, pt b2), (2, pt b1)] w30 (by kernel_rfl) ?_
    have S61 : Sep w (box b5 [.string u2, iv (parX u3), iv (parX u4), .bool false, .slice none 0 0] 34 :: rowOf frmE ra2 rc2 34 5 (out ++ [(⟨u2, parX u3, parX u4, false, none, 0, 0, []⟩ : Frm)]) :: box b4 (Pz.map Value.string) 9 :: box b3 [.slice ra2 ((out ++ [(⟨u2, parX u3, parX u4, false, none, 0, 0, []⟩ : Frm)]).length) rc2] 24 :: box b2 [iv 0, iv 0] 40 :: box b1 [.slice none 0 0] 24 :: tlF (out ++ [(⟨u2, parX u3, parX u4, false, none, 0, 0, []⟩ : Frm)])) w30 := S60.erase 1
    clear S60
    have S62 : Sep w (rowOf frmE ra2 rc2 34 5 (out ++ [(⟨u2, parX u3, parX u4, false, none, 0, 0, []⟩ : Frm)]) :: box b4 (Pz.map Value.string) 9 :: box b3 [.slice ra2 ((out ++ [(⟨u2, parX u3, parX u4, false, none, 0, 0, []⟩ : Frm)]).length) rc2] 24 :: box b2 [iv 0, iv 0] 40 :: box b1 [.slice none 0 0] 24 :: tlF (out ++ [(⟨u2, parX u3, parX u4, false, none, 0, 0, []⟩ : Frm)])) w30 := S61.erase 0
    clear S61
    refine J.run 0 K14_6 [(28, iv (i + 1)), (27, iv (Pz.length : Int)), (26, .slice (some ⟨b4, 0, none⟩) Pz.length Pz.length), (5, pt b3), (3, pt b2), (2, pt b1)] w30 (by kernel_rfl) ?_
    exact ih1 _ (show ((Pz.length : Int) - (i + 1)).toNat < mm1 from by omega) ra2 rc2 (out ++ [(⟨u2, parX u3, parX u4, false, none, 0, 0, []⟩ : Frm)]) (i + 1) w30 (by omega) (by omega) (by first | omega | (rw [List.length_append, List.length_singleton]; omega) | (rw [List.length_set]; omega)) (all_snoc hof (okF_of (by omega) _ (px _) (px _))) (all_snoc (Q := fun y => (y.gSignals_l.length : Int) ≤ i + 1) (fun y hy => Int.le_trans (hsl y hy) (by omega)) (show ((0 : Nat) : Int) ≤ i + 1 by omega)) ((good_line hQ h0 (by omega) hx1 hL (by omega) hZl (rd_end hZ (by omega) (by decide))).trans (by rw [fr_add (f := (⟨u2, parX u3, parX u4, false, none, 0, 0, []⟩ : Frm)) hkF (by rw [e_u2, e_u3, e_u4]; unfold frmL; rw [decide_eq_false (by omega)]; rfl)])) S62 rfl
   refine J.head (.bool true) (congrArg Value.bool (decide_eq_true fk10)) ?_
   refine J.run 7 K14_41 ((99, iv 3) :: (97, iv 3) :: (96, iv ((A.length - 1 : Nat) : Int)) :: (95, .slice (subA la lc 1 1) (A.length - 1) (lc - 1)) :: (14, iv 1) :: (K14EF b10 b6 b5 x lb B ld la A lc i Pz b4 b3 b2 b1)) w17 (by kernel_rfl) ?_
   obtain ⟨p6, hp6, hc5⟩ := (ones_drop (row1_ones (S35.nth 5 rfl) _ rfl) lc 1 (by omega) (by omega)).at ByteArray.empty 3 (by omega)
   refine J.ok (OK.index 100 49 1 (subA la lc 1 1) p6 (A.length - 1) 3 3 (p6.add 3) (by kernel_rfl) (by kernel_rfl) hp6 (by omega) (by omega) (by rw [Nat.mul_one])) ?_
   refine J.ok (OK.ldCell 101 9 (p6.add 3) (.string ((A.drop 1).getD 3 ByteArray.empty)) (by kernel_rfl) (by kernel_rfl) hc5) ?_
   obtain ⟨u5, hu5⟩ : ∃ x : ByteArray, x = (A.drop 1).getD 3 ByteArray.empty := ⟨_, rfl⟩
   have e_u5 : u5 = wAt L 4 := by rw [hu5, hA]; exact fst_drop L 3
   have z_u5 : u5.size ≤ 1000000 := by rw [e_u5]; exact hws _
   refine J.head (.string u5) (congrArg Value.string hu5.symm) ?_
   refine J.run 12 K14_42 ((108, iv 3) :: (107, .slice (some ⟨b10, 0, none⟩) 4 4) :: (106, .bool false) :: (16, .string u5) :: (15, iv 3) :: (97, iv 3) :: (96, iv ((A.length - 1 : Nat) : Int)) :: (95, .slice (subA la lc 1 1) (A.length - 1) (lc - 1)) :: (14, iv 1) :: (K14EF b10 b6 b5 x lb B ld la A lc i Pz b4 b3 b2 b1)) w17 (by kernel_rfl) ?_
   refine J.ok (OK.index 109 81 1 (some ⟨b10, 0, none⟩) ⟨b10, 0, none⟩ 4 3 3 ⟨b10, 3, none⟩ (by kernel_rfl) (by kernel_rfl) rfl (by omega) (by omega) (by rfl)) ?_
   refine J.ok (OK.ldBox S35 1 110 82 3 (.func (.func 41) #[] #[pt b5]) (by kernel_rfl) rfl (by kernel_rfl)) ?_
   refine J.run 1 K14_43 ((111, .string u5) :: (110, .func (.func 41) #[] #[pt b5]) :: (106, .bool false) :: (15, iv 3) :: (97, iv 3) :: (96, iv ((A.length - 1 : Nat) : Int)) :: (95, .slice (subA la lc 1 1) (A.length - 1) (lc - 1)) :: (14, iv 1) :: (K14EF b10 b6 b5 x lb B ld la A lc i Pz b4 b3 b2 b1)) w17 (by kernel_rfl) ?_
   refine J.callF 112 41 #[.string u5, pt b5] hb41 (by kernel_rfl) (guard_any b5 (.string u2) (iv (parX u3)) (iv (parX u4)) (.bool false) (.slice none 0 0) u5 _ _ _ S35) ?_
   rintro _ w18 ⟨rfl, S36⟩
   clear S35
   replace S36 : Sep w (box b5 [.string u2, iv (parX u3), iv (parX u4), .bool true, .slice none 0 0] 34 :: (K14TF b10 b7 b8 b9 b5 la lc A lb ld B ra rc out b4 Pz b3 b2 b1)) w18 := S36
   refine J.run 3 K14_44 ((114, .bool (!(eqT u5 WGd))) :: (15, iv 3) :: (97, iv 3) :: (96, iv ((A.length - 1 : Nat) : Int)) :: (95, .slice (subA la lc 1 1) (A.length - 1) (lc - 1)) :: (14, iv 1) :: (K14EF b10 b6 b5 x lb B ld la A lc i Pz b4 b3 b2 b1)) w18 (by kernel_rfl) ?_
   rcases Bool.eq_false_or_eq_true (eqT u5 WGd) with fk11 | fk11
   rotate_left
   ·skip
    refine J.head (.bool true) (congrArg Value.bool (by rw [fk11]; rfl)) ?_
    have hbad := rd_bad hZ (by omega) (by rw [← e_u5]; exact fk11)
    have S50 : Sep w [rowOf Eng.encI lb ld 3 1 B, box b2 [iv 0, iv 0] 40, box b1 [.slice none 0 0] 24] w18 := S36.sub (.cons _ (.cons _ (.cons _ (.cons _ (.cons _ (.cons _ (.cons_cons _ (.cons _ (.cons _ (.cons _ (.cons_cons _ (.cons_cons _ (List.nil_sublist _)))))))))))))
    clear S36
    refine J.run 2 K14_56 [(15, iv 3), (9, .slice lb B.length ld), (6, iv i), (3, pt b2), (2, pt b1)] w18 (by kernel_rfl) ?_
    obtain ⟨p9, hp9⟩ := row1_addr (S50.nth 0 rfl) (show 0 < (B).length by first | omega | (simp; omega))
    refine J.drawPlan (fun w_ => Sep w [rowOf Eng.encI lb ld 3 1 B, box b1 [.slice none 0 0] 24] w_) [(0, true), (1, true), (2, true), (3, true), (4, true), (5, true), (6, true), (7, true), (8, true), (9, false), (10, false), (11, true)] S50 Tryd.mixed (by kernel_rfl) (planOK_of (T := [(0, some 115, 0), (0, some 116, 64), (2, some 117, 83076749736557242056487941267521536), (0, some 118, 512), (0, some 119, 32768), (16, some 120, 664613997892457936451903530140172288), (40, some 121, 1661534994731144841129758825350430720), (64, some 122, 2658455991569831745807614120560689152), (132, some 123, 5483065482612777975728204123656421376), (1, none, 41538374868278621028243970633760772), (1023, none, 10633823966279326983230456482242756616), (2047, some 4, 0)]) (by kernel_rfl) (by kernel_rfl)) ?_
    intro w25 S51
    refine PB.mk (S51.erase 1) ?_
    refine PL.take 0 115 (.agg #[.slice none 0 0]) (fun _ _ => by kernel_rfl) ?_
    refine PL.take 1 116 (iv i) (fun _ _ => by kernel_rfl) ?_
    refine PL.take 2 117 (iv (IntKind.wrap .i64 (i + 1))) (fun _ _ => by kernel_rfl) ?_
    refine PL.head (iv (i + 1)) (congrArg (Value.int .i64) (IntWalk.i64_in _ (by omega))) ?_
    refine PL.take 3 118 (.slice lb B.length ld) (fun _ _ => by kernel_rfl) ?_
    refine PL.take 4 119 (iv 3) (fun _ _ => by kernel_rfl) ?_
    refine PL.take 5 120 (iv 4) (fun _ _ => by kernel_rfl) ?_
    refine PL.takeOK 6 (fun w_ S_ => OK.index 121 59 1 lb p9 B.length 4 4 (p9.add 4) (by kernel_rfl) (by kernel_rfl) hp9 (by omega) (by first | omega | (simp; omega)) (by rw [Nat.mul_one])) rfl ?_
    refine PL.takeOK 7 (fun w_ S_ => OK.ldCell 122 3 (p9.add 4) (iv (B.getD 4 0)) (by kernel_rfl) (by kernel_rfl) (row1_cell (g := (Value.int .i64)) S_ 0 rfl hp9 0 4 (by first | omega | (simp; omega)))) rfl ?_
    refine PL.take 8 123 (.agg #[iv (i + 1), iv (B.getD 4 0)]) (fun _ _ => by kernel_rfl) ?_
    refine PL.stBox S51 2 24 0 (.agg #[.slice none 0 0]) [.slice none 0 0] [rowOf Eng.encI lb ld 3 1 B, box b2 [iv 0, iv 0] 40, box b1 [.slice none 0 0] 24] (by kernel_rfl) rfl (by kernel_rfl) (by kernel_rfl) rfl ?_
    intro w26 S52
    refine PB.mk (S52.erase 1) ?_
    refine PL.stBox S52 1 40 0 (.agg #[iv (i + 1), iv (B.getD 4 0)]) [iv (i + 1), iv (B.getD 4 0)] [rowOf Eng.encI lb ld 3 1 B, box b2 [iv (i + 1), iv (B.getD 4 0)] 40, box b1 [.slice none 0 0] 24] (by kernel_rfl) rfl (by kernel_rfl) (by kernel_rfl) rfl ?_
    intro w27 S53
    refine PB.mk (S53.erase 1) ?_
    refine PL.take 11 4 (iv 3) (fun _ _ => by kernel_rfl) ?_
    refine PL.done ?_
    refine J.run 0 (rRest K14_56) [(4, iv 3), (3, pt b2), (2, pt b1)] w27 (by kernel_rfl) ?_
    refine J.ret Tryd.f14 [.agg #[.slice none 0 0], .agg #[iv (i + 1), iv (B.getD 4 0)], iv 3] Tryd.func14 ⟨⟨⟨b1, 0, none⟩, by kernel_rfl, ldV_run (S53.nth 2 rfl) (by kernel_rfl)⟩, ⟨⟨b2, 0, none⟩, by kernel_rfl, ldV_run (S53.nth 1 rfl) (by kernel_rfl)⟩, by kernel_rfl, trivial⟩ ?_
    refine hR _ _ ?_
    rw [show B.getD 4 0 = (L.getD 4 wd0).2 from by rw [hB]; exact snd_at L 4]
    exact bad_post (bad_line hQ h0 (by omega) hx1 hL (by omega) hZl hbad) S53
   refine J.head (.bool false) (congrArg Value.bool (by rw [fk11]; rfl)) ?_
   replace hZ : Z = rdS [] 1 (L.drop 5) ((x.size : Int) + 1) := rd_ok hZ (by omega) (by rw [← e_u5]; exact fk11)
   refine J.run 8 K14_45 ((97, iv 4) :: (96, iv ((A.length - 1 : Nat) : Int)) :: (95, .slice (subA la lc 1 1) (A.length - 1) (lc - 1)) :: (14, iv 1) :: (K14EF b10 b6 b5 x lb B ld la A lc i Pz b4 b3 b2 b1)) w18 (by kernel_rfl) ?_
   refine J.run 5 K14_46 ((98, .bool (decide (4 < ((A.length - 1 : Nat) : Int)))) :: (97, iv 4) :: (96, iv ((A.length - 1 : Nat) : Int)) :: (95, .slice (subA la lc 1 1) (A.length - 1) (lc - 1)) :: (14, iv 1) :: (K14EF b10 b6 b5 x lb B ld la A lc i Pz b4 b3 b2 b1)) w18 (by kernel_rfl) ?_
   by_cases fk12 : 4 < ((A.length - 1 : Nat) : Int)
   ·skip
    refine J.head (.bool true) (congrArg Value.bool (decide_eq_true fk12)) ?_
    have S37 : Sep w [rowOf (enc1 Value.string) la lc 9 1 A, rowOf Eng.encI lb ld 3 1 B, box b2 [iv 0, iv 0] 40, box b1 [.slice none 0 0] 24] w18 := S36.sub (.cons _ (.cons _ (.cons _ (.cons _ (.cons _ (.cons_cons _ (.cons_cons _ (.cons _ (.cons _ (.cons _ (.cons_cons _ (.cons_cons _ (List.nil_sublist _)))))))))))))
    clear S36
    refine J.run 7 K14_47 ((99, iv 4) :: (97, iv 4) :: (96, iv ((A.length - 1 : Nat) : Int)) :: (95, .slice (subA la lc 1 1) (A.length - 1) (lc - 1)) :: (14, iv 1) :: (K14EF b10 b6 b5 x lb B ld la A lc i Pz b4 b3 b2 b1)) w18 (by kernel_rfl) ?_
    obtain ⟨p7, hp7, hc6⟩ := (ones_drop (row1_ones (S37.nth 0 rfl) _ rfl) lc 1 (by omega) (by omega)).at ByteArray.empty 4 (by omega)
    refine J.ok (OK.index 100 49 1 (subA la lc 1 1) p7 (A.length - 1) 4 4 (p7.add 4) (by kernel_rfl) (by kernel_rfl) hp7 (by omega) (by omega) (by rw [Nat.mul_one])) ?_
    refine J.ok (OK.ldCell 101 9 (p7.add 4) (.string ((A.drop 1).getD 4 ByteArray.empty)) (by kernel_rfl) (by kernel_rfl) hc6) ?_
    obtain ⟨u6, hu6⟩ : ∃ x : ByteArray, x = (A.drop 1).getD 4 ByteArray.empty := ⟨_, rfl⟩
    have e_u6 : u6 = wAt L 5 := by rw [hu6, hA]; exact fst_drop L 4
    have z_u6 : u6.size ≤ 1000000 := by rw [e_u6]; exact hws _
    refine J.head (.string u6) (congrArg Value.string hu6.symm) ?_
    refine J.run 21 K14_48 [(15, iv 4), (9, .slice lb B.length ld), (6, iv i), (3, pt b2), (2, pt b1)] w18 (by kernel_rfl) ?_
    obtain ⟨p8, hp8⟩ := row1_addr (S37.nth 1 rfl) (show 0 < (B).length by first | omega | (simp; omega))
    refine J.drawPlan (fun w_ => Sep w [rowOf (enc1 Value.string) la lc 9 1 A, rowOf Eng.encI lb ld 3 1 B, box b1 [.slice none 0 0] 24] w_) [(0, true), (1, true), (2, true), (3, true), (4, true), (5, true), (6, true), (7, true), (8, true), (9, false), (10, false), (11, true)] S37 Tryd.mixed (by kernel_rfl) (planOK_of (T := [(0, some 115, 0), (0, some 116, 64), (2, some 117, 83076749736557242056487941267521536), (0, some 118, 512), (0, some 119, 32768), (16, some 120, 664613997892457936451903530140172288), (40, some 121, 1661534994731144841129758825350430720), (64, some 122, 2658455991569831745807614120560689152), (132, some 123, 5483065482612777975728204123656421376), (1, none, 41538374868278621028243970633760772), (1023, none, 10633823966279326983230456482242756616), (2047, some 4, 0)]) (by kernel_rfl) (by kernel_rfl)) ?_
    intro w19 S38
    refine PB.mk (S38.erase 2) ?_
    refine PL.take 0 115 (.agg #[.slice none 0 0]) (fun _ _ => by kernel_rfl) ?_
    refine PL.take 1 116 (iv i) (fun _ _ => by kernel_rfl) ?_
    refine PL.take 2 117 (iv (IntKind.wrap .i64 (i + 1))) (fun _ _ => by kernel_rfl) ?_
    refine PL.head (iv (i + 1)) (congrArg (Value.int .i64) (IntWalk.i64_in _ (by omega))) ?_
    refine PL.take 3 118 (.slice lb B.length ld) (fun _ _ => by kernel_rfl) ?_
    refine PL.take 4 119 (iv 4) (fun _ _ => by kernel_rfl) ?_
    refine PL.take 5 120 (iv 5) (fun _ _ => by kernel_rfl) ?_
    refine PL.takeOK 6 (fun w_ S_ => OK.index 121 59 1 lb p8 B.length 5 5 (p8.add 5) (by kernel_rfl) (by kernel_rfl) hp8 (by omega) (by first | omega | (simp; omega)) (by rw [Nat.mul_one])) rfl ?_
    refine PL.takeOK 7 (fun w_ S_ => OK.ldCell 122 3 (p8.add 5) (iv (B.getD 5 0)) (by kernel_rfl) (by kernel_rfl) (row1_cell (g := (Value.int .i64)) S_ 1 rfl hp8 0 5 (by first | omega | (simp; omega)))) rfl ?_
    refine PL.take 8 123 (.agg #[iv (i + 1), iv (B.getD 5 0)]) (fun _ _ => by kernel_rfl) ?_
    refine PL.stBox S38 3 24 0 (.agg #[.slice none 0 0]) [.slice none 0 0] [rowOf (enc1 Value.string) la lc 9 1 A, rowOf Eng.encI lb ld 3 1 B, box b2 [iv 0, iv 0] 40, box b1 [.slice none 0 0] 24] (by kernel_rfl) rfl (by kernel_rfl) (by kernel_rfl) rfl ?_
    intro w20 S39
    refine PB.mk (S39.erase 2) ?_
    refine PL.stBox S39 2 40 0 (.agg #[iv (i + 1), iv (B.getD 5 0)]) [iv (i + 1), iv (B.getD 5 0)] [rowOf (enc1 Value.string) la lc 9 1 A, rowOf Eng.encI lb ld 3 1 B, box b2 [iv (i + 1), iv (B.getD 5 0)] 40, box b1 [.slice none 0 0] 24] (by kernel_rfl) rfl (by kernel_rfl) (by kernel_rfl) rfl ?_
    intro w21 S40
    refine PB.mk (S40.erase 2) ?_
    refine PL.take 11 4 (iv 3) (fun _ _ => by kernel_rfl) ?_
    refine PL.done ?_
    refine J.run 0 (rRest K14_48) [(4, iv 3), (3, pt b2), (2, pt b1)] w21 (by kernel_rfl) ?_
    refine J.ret Tryd.f14 [.agg #[.slice none 0 0], .agg #[iv (i + 1), iv (B.getD 5 0)], iv 3] Tryd.func14 ⟨⟨⟨b1, 0, none⟩, by kernel_rfl, ldV_run (S40.nth 3 rfl) (by kernel_rfl)⟩, ⟨⟨b2, 0, none⟩, by kernel_rfl, ldV_run (S40.nth 2 rfl) (by kernel_rfl)⟩, by kernel_rfl, trivial⟩ ?_
    refine hR _ _ ?_
    rw [show B.getD 5 0 = (L.getD 5 wd0).2 from by rw [hB]; exact snd_at L 5]
    exact bad_post (bad_line hQ h0 (by omega) hx1 hL (by omega) hZl (rd_more hZ (by omega))) S40
   refine J.head (.bool false) (congrArg Value.bool (decide_eq_false fk12)) ?_
   have S41 : Sep w (box b5 [.string u2, iv (parX u3), iv (parX u4), .bool true, .slice none 0 0] 34 :: rowOf (enc1 Value.string) la lc 9 1 A :: rowOf frmE ra rc 34 5 out :: box b4 (Pz.map Value.string) 9 :: box b3 [.slice ra out.length rc] 24 :: box b2 [iv 0, iv 0] 40 :: box b1 [.slice none 0 0] 24 :: tlF out) w18 := S36.sub (.cons_cons _ (.cons _ (.cons _ (.cons _ (.cons _ (.cons_cons _ (.cons _ (.cons_cons _ (.cons_cons _ (.cons_cons _ (.cons_cons _ (.cons_cons _ (List.Sublist.refl _)))))))))))))
   clear S36
   refine J.run 8 K14_49 ((127, iv (IntKind.wrap .i64 ((A.length : Int) - 1))) :: (14, iv 1) :: (13, .slice (some ⟨b10, 0, none⟩) 4 4) :: (12, pt b6) :: (11, pt b5) :: (10, iv ((x.size : Int) + 1)) :: (8, .slice la A.length lc) :: (6, iv i) :: (K14E0 i Pz b4 b3 b2 b1)) w18 (by kernel_rfl) ?_
   refine J.head (iv ((A.length : Int) - 1)) (congrArg (Value.int .i64) (IntWalk.i64_in _ (by omega))) ?_
   refine J.run 6 K14_50 ((132, .bool (decide (((A.length : Int) - 1) < 3))) :: (12, pt b6) :: (11, pt b5) :: (10, iv ((x.size : Int) + 1)) :: (8, .slice la A.length lc) :: (6, iv i) :: (K14E0 i Pz b4 b3 b2 b1)) w18 (by kernel_rfl) ?_
   have fk14 : ¬ (((A.length : Int) - 1) < 3) := by omega
   refine J.head (.bool false) (congrArg Value.bool (decide_eq_false fk14)) ?_
   refine J.run 5 K14_51 ((138, .slice la A.length lc) :: (12, pt b6) :: (11, pt b5) :: (K14E0 i Pz b4 b3 b2 b1)) w18 (by kernel_rfl) ?_
   refine J.ok (OK.index 139 49 1 la p2 A.length 0 0 (p2.add 0) (by kernel_rfl) (by kernel_rfl) hp2 (by omega) (by first | omega | (simp; omega)) (by rw [Nat.mul_one])) ?_
   refine J.ok (OK.ldCell 140 9 (p2.add 0) (.string (A.getD 0 ByteArray.empty)) (by kernel_rfl) (by kernel_rfl) (row1_cell (g := Value.string) S41 1 rfl hp2 ByteArray.empty 0 (by first | omega | (simp; omega)))) ?_
   refine J.head (.string u1) (congrArg Value.string hu1.symm) ?_
   refine J.run 2 K14_52 ((141, .bool (u1.toList == WFr.toList)) :: (12, pt b6) :: (11, pt b5) :: (K14E0 i Pz b4 b3 b2 b1)) w18 (by kernel_rfl) ?_
   refine J.head (.bool true) (congrArg Value.bool fk4) ?_
   refine J.run 3 K14_53 ((142, pt b3) :: (11, pt b5) :: (K14E0 i Pz b4 b3 b2 b1)) w18 (by kernel_rfl) ?_
   refine J.ok (OK.ldBox S41 4 143 22 0 (.slice ra out.length rc) (by kernel_rfl) rfl (by kernel_rfl)) ?_
   refine J.ok (OK.ldBox S41 0 144 34 0 (.agg #[.string u2, iv (parX u3), iv (parX u4), .bool true, .slice none 0 0]) (by kernel_rfl) rfl (by kernel_rfl)) ?_
   refine J.newSlice S41 145 1 [.string u2, iv (parX u3), iv (parX u4), .bool true, .slice none 0 0] 34 (by kernel_rfl) ?_
   intro b11 w22 S42
   refine J.append frmE S42 3 out (⟨u2, parX u3, parX u4, true, none, 0, 0, []⟩ : Frm) 146 22 (.agg #[.string ByteArray.empty, iv 0, iv 0, .bool false, .slice none 0 0]) 64 ⟨b11, 0, none⟩ 1 rfl (by kernel_rfl) (by kernel_rfl) (by kernel_rfl) (by kernel_rfl) (by decide) (box_cells (S42.nth 0 rfl)) (by kernel_rfl) (by kernel_rfl) (⟨by omega, by omega⟩) ?_
   intro ra1 rc1 w23 S43
   replace S43 : Sep w (box b11 [.string u2, iv (parX u3), iv (parX u4), .bool true, .slice none 0 0] 34 :: box b5 [.string u2, iv (parX u3), iv (parX u4), .bool true, .slice none 0 0] 34 :: rowOf (enc1 Value.string) la lc 9 1 A :: rowOf frmE ra1 rc1 34 5 (out ++ [(⟨u2, parX u3, parX u4, true, none, 0, 0, []⟩ : Frm)]) :: box b4 (Pz.map Value.string) 9 :: box b3 [.slice ra out.length rc] 24 :: box b2 [iv 0, iv 0] 40 :: box b1 [.slice none 0 0] 24 :: tlF out) w23 := S43
   have S44 : Sep w (box b5 [.string u2, iv (parX u3), iv (parX u4), .bool true, .slice none 0 0] 34 :: rowOf (enc1 Value.string) la lc 9 1 A :: rowOf frmE ra1 rc1 34 5 (out ++ [(⟨u2, parX u3, parX u4, true, none, 0, 0, []⟩ : Frm)]) :: box b4 (Pz.map Value.string) 9 :: box b3 [.slice ra out.length rc] 24 :: box b2 [iv 0, iv 0] 40 :: box b1 [.slice none 0 0] 24 :: tlF out) w23 := S43.erase 0
   clear S43
   have S45 := S44.nilRow 57 10
   have S46 : Sep w (box b5 [.string u2, iv (parX u3), iv (parX u4), .bool true, .slice none 0 0] 34 :: rowOf (enc1 Value.string) la lc 9 1 A :: rowOf frmE ra1 rc1 34 5 (out ++ [(⟨u2, parX u3, parX u4, true, none, 0, 0, []⟩ : Frm)]) :: box b4 (Pz.map Value.string) 9 :: box b3 [.slice ra out.length rc] 24 :: box b2 [iv 0, iv 0] 40 :: box b1 [.slice none 0 0] 24 :: tlF (out ++ [(⟨u2, parX u3, parX u4, true, none, 0, 0, []⟩ : Frm)])) w23 := by rw [tlF_snoc]; exact S45.back 7
   clear S45
   refine J.run 1 K14_54 ((147, pt b3) :: (146, .slice ra1 ((out ++ [(⟨u2, parX u3, parX u4, true, none, 0, 0, []⟩ : Frm)]).length) rc1) :: (K14E0 i Pz b4 b3 b2 b1)) w23 (by kernel_rfl) ?_
   refine J.stBox S46 4 22 0 (.slice ra1 ((out ++ [(⟨u2, parX u3, parX u4, true, none, 0, 0, []⟩ : Frm)]).length) rc1) [.slice ra1 ((out ++ [(⟨u2, parX u3, parX u4, true, none, 0, 0, []⟩ : Frm)]).length) rc1] (box b5 [.string u2, iv (parX u3), iv (parX u4), .bool true, .slice none 0 0] 34 :: rowOf (enc1 Value.string) la lc 9 1 A :: rowOf frmE ra1 rc1 34 5 (out ++ [(⟨u2, parX u3, parX u4, true, none, 0, 0, []⟩ : Frm)]) :: box b4 (Pz.map Value.string) 9 :: box b3 [.slice ra1 ((out ++ [(⟨u2, parX u3, parX u4, true, none, 0, 0, []⟩ : Frm)]).length) rc1] 24 :: box b2 [iv 0, iv 0] 40 :: box b1 [.slice none 0 0] 24 :: tlF (out ++ [(⟨u2, parX u3, parX u4, true, none, 0, 0, []⟩ : Frm)])) (by kernel_rfl) rfl (by kernel_rfl) (by kernel_rfl) rfl ?_
   intro w24 S47
   refine J.run 4 K14_55 [(165, iv (IntKind.wrap .i64 (i + 1))), (27, iv (Pz.length : Int)), (26, .slice (some ⟨b4, 0, none⟩) Pz.length Pz.length), (5, pt b3), (3, pt b2), (2, pt b1)] w24 (by kernel_rfl) ?_
   refine J.head (iv (i + 1)) (congrArg (Value.int .i64) (IntWalk.i64_in _ (by omega))) ?_
   refine J.run 3 K14_6 [(28, iv (i + 1)), (27, iv (Pz.length : Int)), (26, .slice (some ⟨b4, 0, none⟩) Pz.length Pz.length), (5, pt b3), (3, pt b2), (2, pt b1)] w24 (by kernel_rfl) ?_
   have S48 : Sep w (box b5 [.string u2, iv (parX u3), iv (parX u4), .bool true, .slice none 0 0] 34 :: rowOf frmE ra1 rc1 34 5 (out ++ [(⟨u2, parX u3, parX u4, true, none, 0, 0, []⟩ : Frm)]) :: box b4 (Pz.map Value.string) 9 :: box b3 [.slice ra1 ((out ++ [(⟨u2, parX u3, parX u4, true, none, 0, 0, []⟩ : Frm)]).length) rc1] 24 :: box b2 [iv 0, iv 0] 40 :: box b1 [.slice none 0 0] 24 :: tlF (out ++ [(⟨u2, parX u3, parX u4, true, none, 0, 0, []⟩ : Frm)])) w24 := S47.erase 1
   clear S47
   have S49 : Sep w (rowOf frmE ra1 rc1 34 5 (out ++ [(⟨u2, parX u3, parX u4, true, none, 0, 0, []⟩ : Frm)]) :: box b4 (Pz.map Value.string) 9 :: box b3 [.slice ra1 ((out ++ [(⟨u2, parX u3, parX u4, true, none, 0, 0, []⟩ : Frm)]).length) rc1] 24 :: box b2 [iv 0, iv 0] 40 :: box b1 [.slice none 0 0] 24 :: tlF (out ++ [(⟨u2, parX u3, parX u4, true, none, 0, 0, []⟩ : Frm)])) w24 := S48.erase 0
   clear S48
   refine J.run 0 K14_6 [(28, iv (i + 1)), (27, iv (Pz.length : Int)), (26, .slice (some ⟨b4, 0, none⟩) Pz.length Pz.length), (5, pt b3), (3, pt b2), (2, pt b1)] w24 (by kernel_rfl) ?_
   exact ih1 _ (show ((Pz.length : Int) - (i + 1)).toNat < mm1 from by omega) ra1 rc1 (out ++ [(⟨u2, parX u3, parX u4, true, none, 0, 0, []⟩ : Frm)]) (i + 1) w24 (by omega) (by omega) (by first | omega | (rw [List.length_append, List.length_singleton]; omega) | (rw [List.length_set]; omega)) (all_snoc hof (okF_of (by omega) _ (px _) (px _))) (all_snoc (Q := fun y => (y.gSignals_l.length : Int) ≤ i + 1) (fun y hy => Int.le_trans (hsl y hy) (by omega)) (show ((0 : Nat) : Int) ≤ i + 1 by omega)) ((good_line hQ h0 (by omega) hx1 hL (by omega) hZl (rd_end hZ (by omega) (by decide))).trans (by rw [fr_add (f := (⟨u2, parX u3, parX u4, true, none, 0, 0, []⟩ : Frm)) hkF (by rw [e_u2, e_u3, e_u4]; unfold frmL; rw [decide_eq_true (by omega)]; rfl)])) S49 rfl
  refine J.head (.bool false) (congrArg Value.bool fk4) ?_
  refine J.run 4 K14_81 ((63, .slice la A.length lc) :: (14, iv 0) :: (12, pt b6) :: (11, pt b5) :: (10, iv ((x.size : Int) + 1)) :: (9, .slice lb B.length ld) :: (8, .slice la A.length lc) :: (6, iv i) :: (K14E0 i Pz b4 b3 b2 b1)) w10 (by kernel_rfl) ?_
  refine J.ok (OK.index 64 49 1 la p2 A.length 0 0 (p2.add 0) (by kernel_rfl) (by kernel_rfl) hp2 (by omega) (by first | omega | (simp; omega)) (by rw [Nat.mul_one])) ?_
  refine J.ok (OK.ldCell 65 9 (p2.add 0) (.string (A.getD 0 ByteArray.empty)) (by kernel_rfl) (by kernel_rfl) (row1_cell (g := Value.string) S14 2 rfl hp2 ByteArray.empty 0 (by first | omega | (simp; omega)))) ?_
  refine J.head (.string u1) (congrArg Value.string hu1.symm) ?_
  refine J.run 2 K14_82 ((67, .bool (u1.toList == WSg.toList)) :: (14, iv 0) :: (12, pt b6) :: (11, pt b5) :: (10, iv ((x.size : Int) + 1)) :: (9, .slice lb B.length ld) :: (8, .slice la A.length lc) :: (6, iv i) :: (K14E0 i Pz b4 b3 b2 b1)) w10 (by kernel_rfl) ?_
  rcases Bool.eq_false_or_eq_true (u1.toList == WSg.toList) with fk25 | fk25
  rotate_left
  ·skip
   refine J.head (.bool false) (congrArg Value.bool fk25) ?_
   refine J.run 9 K14_228 [(9, .slice lb B.length ld), (6, iv i), (3, pt b2), (2, pt b1)] w10 (by kernel_rfl) ?_
   obtain ⟨p35, hp35⟩ := row1_addr (S14.nth 3 rfl) (show 0 < (B).length by first | omega | (simp; omega))
   refine J.drawPlan (fun w_ => Sep w (box b6 kvP14_1 57 :: box b5 [.string ByteArray.empty, iv 0, iv 0, .bool false, .slice none 0 0] 34 :: rowOf (enc1 Value.string) la lc 9 1 A :: rowOf Eng.encI lb ld 3 1 B :: rowOf frmE ra rc 34 5 out :: box b4 (Pz.map Value.string) 9 :: box b3 [.slice ra out.length rc] 24 :: box b1 [.slice none 0 0] 24 :: tlF out) w_) [(0, true), (1, true), (2, true), (3, true), (4, true), (5, true), (6, true), (7, false), (8, false), (9, true)] S14 Tryd.mixed (by kernel_rfl) (planOK_of (T := [(0, some 42, 0), (0, some 43, 64), (2, some 44, 8796093022208), (0, some 45, 512), (8, some 46, 35184372088832), (16, some 47, 70368744177664), (36, some 48, 158329674399744), (1, none, 4398046511108), (255, none, 281474976710664), (511, some 4, 0)]) (by kernel_rfl) (by kernel_rfl)) ?_
   intro w128 S290
   refine PB.mk (S290.erase 7) ?_
   refine PL.take 0 42 (.agg #[.slice none 0 0]) (fun _ _ => by kernel_rfl) ?_
   refine PL.take 1 43 (iv i) (fun _ _ => by kernel_rfl) ?_
   refine PL.take 2 44 (iv (IntKind.wrap .i64 (i + 1))) (fun _ _ => by kernel_rfl) ?_
   refine PL.head (iv (i + 1)) (congrArg (Value.int .i64) (IntWalk.i64_in _ (by omega))) ?_
   refine PL.take 3 45 (.slice lb B.length ld) (fun _ _ => by kernel_rfl) ?_
   refine PL.takeOK 4 (fun w_ S_ => OK.index 46 59 1 lb p35 B.length 0 0 (p35.add 0) (by kernel_rfl) (by kernel_rfl) hp35 (by omega) (by first | omega | (simp; omega)) (by rw [Nat.mul_one])) rfl ?_
   refine PL.takeOK 5 (fun w_ S_ => OK.ldCell 47 3 (p35.add 0) (iv (B.getD 0 0)) (by kernel_rfl) (by kernel_rfl) (row1_cell (g := (Value.int .i64)) S_ 3 rfl hp35 0 0 (by first | omega | (simp; omega)))) rfl ?_
   refine PL.take 6 48 (.agg #[iv (i + 1), iv (B.getD 0 0)]) (fun _ _ => by kernel_rfl) ?_
   refine PL.stBox S290 8 24 0 (.agg #[.slice none 0 0]) [.slice none 0 0] (box b6 kvP14_1 57 :: box b5 [.string ByteArray.empty, iv 0, iv 0, .bool false, .slice none 0 0] 34 :: (K14T0 la lc A lb ld B ra rc out b4 Pz b3 b2 b1)) (by kernel_rfl) rfl (by kernel_rfl) (by kernel_rfl) rfl ?_
   intro w129 S291
   refine PB.mk (S291.erase 7) ?_
   refine PL.stBox S291 7 40 0 (.agg #[iv (i + 1), iv (B.getD 0 0)]) [iv (i + 1), iv (B.getD 0 0)] (box b6 kvP14_1 57 :: box b5 [.string ByteArray.empty, iv 0, iv 0, .bool false, .slice none 0 0] 34 :: rowOf (enc1 Value.string) la lc 9 1 A :: rowOf Eng.encI lb ld 3 1 B :: rowOf frmE ra rc 34 5 out :: box b4 (Pz.map Value.string) 9 :: box b3 [.slice ra out.length rc] 24 :: box b2 [iv (i + 1), iv (B.getD 0 0)] 40 :: box b1 [.slice none 0 0] 24 :: tlF out) (by kernel_rfl) rfl (by kernel_rfl) (by kernel_rfl) rfl ?_
   intro w130 S292
   refine PB.mk (S292.erase 7) ?_
   refine PL.take 9 4 (iv 3) (fun _ _ => by kernel_rfl) ?_
   refine PL.done ?_
   refine J.run 0 (rRest K14_228) [(4, iv 3), (3, pt b2), (2, pt b1)] w130 (by kernel_rfl) ?_
   refine J.ret Tryd.f14 [.agg #[.slice none 0 0], .agg #[iv (i + 1), iv (B.getD 0 0)], iv 3] Tryd.func14 ⟨⟨⟨b1, 0, none⟩, by kernel_rfl, ldV_run (S292.nth 8 rfl) (by kernel_rfl)⟩, ⟨⟨b2, 0, none⟩, by kernel_rfl, ldV_run (S292.nth 7 rfl) (by kernel_rfl)⟩, by kernel_rfl, trivial⟩ ?_
   refine hR _ _ ?_
   rw [show B.getD 0 0 = (L.getD 0 wd0).2 from by rw [hB]; exact snd_at L 0]
   exact bad_post (bad_line hQ h0 (by omega) hx1 hL (by omega) hZl (hZl.trans (line_none (by rw [← e_u1]; exact fk4) (.inl (by rw [← e_u1]; exact fk25))))) S292
  refine J.head (.bool true) (congrArg Value.bool fk25) ?_
  refine J.run 1 K14_83 ((68, pt b3) :: (67, .bool true) :: (14, iv 0) :: (12, pt b6) :: (11, pt b5) :: (10, iv ((x.size : Int) + 1)) :: (9, .slice lb B.length ld) :: (8, .slice la A.length lc) :: (6, iv i) :: (K14E0 i Pz b4 b3 b2 b1)) w10 (by kernel_rfl) ?_
  refine J.ok (OK.ldBox S14 6 69 22 0 (.slice ra out.length rc) (by kernel_rfl) rfl (by kernel_rfl)) ?_
  refine J.run 5 K14_84 ((62, .bool (decide ((out.length : Int) > 0))) :: (14, iv 0) :: (12, pt b6) :: (11, pt b5) :: (10, iv ((x.size : Int) + 1)) :: (9, .slice lb B.length ld) :: (8, .slice la A.length lc) :: (6, iv i) :: (K14E0 i Pz b4 b3 b2 b1)) w10 (by kernel_rfl) ?_
  by_cases fk26 : (out.length : Int) > 0
  rotate_left
  ·skip
   refine J.head (.bool false) (congrArg Value.bool (decide_eq_false fk26)) ?_
   refine J.run 2 K14_227 [(9, .slice lb B.length ld), (6, iv i), (3, pt b2), (2, pt b1)] w10 (by kernel_rfl) ?_
   obtain ⟨p34, hp34⟩ := row1_addr (S14.nth 3 rfl) (show 0 < (B).length by first | omega | (simp; omega))
   refine J.drawPlan (fun w_ => Sep w (box b6 kvP14_1 57 :: box b5 [.string ByteArray.empty, iv 0, iv 0, .bool false, .slice none 0 0] 34 :: rowOf (enc1 Value.string) la lc 9 1 A :: rowOf Eng.encI lb ld 3 1 B :: rowOf frmE ra rc 34 5 out :: box b4 (Pz.map Value.string) 9 :: box b3 [.slice ra out.length rc] 24 :: box b1 [.slice none 0 0] 24 :: tlF out) w_) [(0, true), (1, true), (2, true), (3, true), (4, true), (5, true), (6, true), (7, false), (8, false), (9, true)] S14 Tryd.mixed (by kernel_rfl) (planOK_of (T := [(0, some 42, 0), (0, some 43, 64), (2, some 44, 8796093022208), (0, some 45, 512), (8, some 46, 35184372088832), (16, some 47, 70368744177664), (36, some 48, 158329674399744), (1, none, 4398046511108), (255, none, 281474976710664), (511, some 4, 0)]) (by kernel_rfl) (by kernel_rfl)) ?_
   intro w125 S287
   refine PB.mk (S287.erase 7) ?_
   refine PL.take 0 42 (.agg #[.slice none 0 0]) (fun _ _ => by kernel_rfl) ?_
   refine PL.take 1 43 (iv i) (fun _ _ => by kernel_rfl) ?_
   refine PL.take 2 44 (iv (IntKind.wrap .i64 (i + 1))) (fun _ _ => by kernel_rfl) ?_
   refine PL.head (iv (i + 1)) (congrArg (Value.int .i64) (IntWalk.i64_in _ (by omega))) ?_
   refine PL.take 3 45 (.slice lb B.length ld) (fun _ _ => by kernel_rfl) ?_
   refine PL.takeOK 4 (fun w_ S_ => OK.index 46 59 1 lb p34 B.length 0 0 (p34.add 0) (by kernel_rfl) (by kernel_rfl) hp34 (by omega) (by first | omega | (simp; omega)) (by rw [Nat.mul_one])) rfl ?_
   refine PL.takeOK 5 (fun w_ S_ => OK.ldCell 47 3 (p34.add 0) (iv (B.getD 0 0)) (by kernel_rfl) (by kernel_rfl) (row1_cell (g := (Value.int .i64)) S_ 3 rfl hp34 0 0 (by first | omega | (simp; omega)))) rfl ?_
   refine PL.take 6 48 (.agg #[iv (i + 1), iv (B.getD 0 0)]) (fun _ _ => by kernel_rfl) ?_
   refine PL.stBox S287 8 24 0 (.agg #[.slice none 0 0]) [.slice none 0 0] (box b6 kvP14_1 57 :: box b5 [.string ByteArray.empty, iv 0, iv 0, .bool false, .slice none 0 0] 34 :: (K14T0 la lc A lb ld B ra rc out b4 Pz b3 b2 b1)) (by kernel_rfl) rfl (by kernel_rfl) (by kernel_rfl) rfl ?_
   intro w126 S288
   refine PB.mk (S288.erase 7) ?_
   refine PL.stBox S288 7 40 0 (.agg #[iv (i + 1), iv (B.getD 0 0)]) [iv (i + 1), iv (B.getD 0 0)] (box b6 kvP14_1 57 :: box b5 [.string ByteArray.empty, iv 0, iv 0, .bool false, .slice none 0 0] 34 :: rowOf (enc1 Value.string) la lc 9 1 A :: rowOf Eng.encI lb ld 3 1 B :: rowOf frmE ra rc 34 5 out :: box b4 (Pz.map Value.string) 9 :: box b3 [.slice ra out.length rc] 24 :: box b2 [iv (i + 1), iv (B.getD 0 0)] 40 :: box b1 [.slice none 0 0] 24 :: tlF out) (by kernel_rfl) rfl (by kernel_rfl) (by kernel_rfl) rfl ?_
   intro w127 S289
   refine PB.mk (S289.erase 7) ?_
   refine PL.take 9 4 (iv 3) (fun _ _ => by kernel_rfl) ?_
   refine PL.done ?_
   refine J.run 0 (rRest K14_227) [(4, iv 3), (3, pt b2), (2, pt b1)] w127 (by kernel_rfl) ?_
   refine J.ret Tryd.f14 [.agg #[.slice none 0 0], .agg #[iv (i + 1), iv (B.getD 0 0)], iv 3] Tryd.func14 ⟨⟨⟨b1, 0, none⟩, by kernel_rfl, ldV_run (S289.nth 8 rfl) (by kernel_rfl)⟩, ⟨⟨b2, 0, none⟩, by kernel_rfl, ldV_run (S289.nth 7 rfl) (by kernel_rfl)⟩, by kernel_rfl, trivial⟩ ?_
   refine hR _ _ ?_
   rw [show B.getD 0 0 = (L.getD 0 wd0).2 from by rw [hB]; exact snd_at L 0]
   exact bad_post (bad_line hQ h0 (by omega) hx1 hL (by omega) hZl (hZl.trans (line_none (by rw [← e_u1]; exact fk4) (.inr (by rw [some_cl]; exact decide_eq_false (by omega)))))) S289
  refine J.head (.bool true) (congrArg Value.bool (decide_eq_true fk26)) ?_
  refine J.run 3 K14_85 ((73, pt b6) :: (14, iv 0) :: (12, pt b6) :: (11, pt b5) :: (10, iv ((x.size : Int) + 1)) :: (9, .slice lb B.length ld) :: (8, .slice la A.length lc) :: (6, iv i) :: (K14E0 i Pz b4 b3 b2 b1)) w10 (by kernel_rfl) ?_
  refine J.callF 74 39 #[pt b6] hb39 (by kernel_rfl) (mktext_any (some ⟨b6, 0, none⟩) _ _ _ S14) ?_
  rintro _ w43 ⟨b13, rfl, S80⟩
  replace S80 : Sep w (box b13 [pt b6] 84 :: box b6 kvP14_1 57 :: box b5 [.string ByteArray.empty, iv 0, iv 0, .bool false, .slice none 0 0] 34 :: (K14T0 la lc A lb ld B ra rc out b4 Pz b3 b2 b1)) w43 := S80
  clear S14
  refine J.run 1 K14_86 ((75, .pointer (some ⟨b6, 1, none⟩)) :: (74, .func (.func 59) #[] #[pt b13]) :: (14, iv 0) :: (12, pt b6) :: (11, pt b5) :: (10, iv ((x.size : Int) + 1)) :: (9, .slice lb B.length ld) :: (8, .slice la A.length lc) :: (6, iv i) :: (K14E0 i Pz b4 b3 b2 b1)) w43 (by kernel_rfl) ?_
  refine J.callF 76 40 #[.pointer (some ⟨b6, 1, none⟩)] hb40 (by kernel_rfl) (mknumber_any (some ⟨b6, 1, none⟩) _ _ _ S80) ?_
  rintro _ w44 ⟨b14, rfl, S81⟩
  replace S81 : Sep w (box b14 [.pointer (some ⟨b6, 1, none⟩)] 86 :: box b13 [pt b6] 84 :: box b6 kvP14_1 57 :: box b5 [.string ByteArray.empty, iv 0, iv 0, .bool false, .slice none 0 0] 34 :: (K14T0 la lc A lb ld B ra rc out b4 Pz b3 b2 b1)) w44 := S81
  clear S80
  refine J.run 1 K14_87 ((77, .pointer (some ⟨b6, 2, none⟩)) :: (76, .func (.func 60) #[] #[pt b14]) :: (74, .func (.func 59) #[] #[pt b13]) :: (14, iv 0) :: (12, pt b6) :: (11, pt b5) :: (10, iv ((x.size : Int) + 1)) :: (9, .slice lb B.length ld) :: (8, .slice la A.length lc) :: (6, iv i) :: (K14E0 i Pz b4 b3 b2 b1)) w44 (by kernel_rfl) ?_
  refine J.callF 78 40 #[.pointer (some ⟨b6, 2, none⟩)] hb40 (by kernel_rfl) (mknumber_any (some ⟨b6, 2, none⟩) _ _ _ S81) ?_
  rintro _ w45 ⟨b15, rfl, S82⟩
  replace S82 : Sep w (box b15 [.pointer (some ⟨b6, 2, none⟩)] 86 :: box b14 [.pointer (some ⟨b6, 1, none⟩)] 86 :: box b13 [pt b6] 84 :: box b6 kvP14_1 57 :: box b5 [.string ByteArray.empty, iv 0, iv 0, .bool false, .slice none 0 0] 34 :: (K14T0 la lc A lb ld B ra rc out b4 Pz b3 b2 b1)) w45 := S82
  clear S81
  refine J.run 1 K14_88 ((79, .pointer (some ⟨b6, 3, none⟩)) :: (78, .func (.func 60) #[] #[pt b15]) :: (76, .func (.func 60) #[] #[pt b14]) :: (74, .func (.func 59) #[] #[pt b13]) :: (14, iv 0) :: (12, pt b6) :: (11, pt b5) :: (10, iv ((x.size : Int) + 1)) :: (9, .slice lb B.length ld) :: (8, .slice la A.length lc) :: (6, iv i) :: (K14E0 i Pz b4 b3 b2 b1)) w45 (by kernel_rfl) ?_
  refine J.callF 80 42 #[.pointer (some ⟨b6, 3, none⟩), .string ⟨#[109, 111, 116, 111, 114, 111, 108, 97]⟩, .string ⟨#[105, 110, 116, 101, 108]⟩] hb42 (by kernel_rfl) (mkchoice_any (some ⟨b6, 3, none⟩) WMo WIn _ _ _ S82) ?_
  rintro _ w46 ⟨b16, b17, b18, rfl, S83⟩
  replace S83 : Sep w (box b18 [.string ⟨#[105, 110, 116, 101, 108]⟩] 9 :: box b17 [.string ⟨#[109, 111, 116, 111, 114, 111, 108, 97]⟩] 9 :: box b16 [.pointer (some ⟨b6, 3, none⟩)] 88 :: box b15 [.pointer (some ⟨b6, 2, none⟩)] 86 :: box b14 [.pointer (some ⟨b6, 1, none⟩)] 86 :: box b13 [pt b6] 84 :: box b6 kvP14_1 57 :: box b5 [.string ByteArray.empty, iv 0, iv 0, .bool false, .slice none 0 0] 34 :: (K14T0 la lc A lb ld B ra rc out b4 Pz b3 b2 b1)) w46 := S83
  clear S82
  refine J.run 1 K14_89 ((81, .pointer (some ⟨b6, 4, none⟩)) :: (80, .func (.func 63) #[] #[pt b17, pt b16, pt b18]) :: (78, .func (.func 60) #[] #[pt b15]) :: (76, .func (.func 60) #[] #[pt b14]) :: (74, .func (.func 59) #[] #[pt b13]) :: (14, iv 0) :: (12, pt b6) :: (11, pt b5) :: (10, iv ((x.size : Int) + 1)) :: (9, .slice lb B.length ld) :: (8, .slice la A.length lc) :: (6, iv i) :: (K14E0 i Pz b4 b3 b2 b1)) w46 (by kernel_rfl) ?_
  refine J.callF 82 42 #[.pointer (some ⟨b6, 4, none⟩), .string ⟨#[115, 105, 103, 110, 101, 100]⟩, .string ⟨#[117, 110, 115, 105, 103, 110, 101, 100]⟩] hb42 (by kernel_rfl) (mkchoice_any (some ⟨b6, 4, none⟩) WSi WUn _ _ _ S83) ?_
  rintro _ w47 ⟨b19, b20, b21, rfl, S84⟩
  replace S84 : Sep w (box b21 [.string ⟨#[117, 110, 115, 105, 103, 110, 101, 100]⟩] 9 :: box b20 [.string ⟨#[115, 105, 103, 110, 101, 100]⟩] 9 :: box b19 [.pointer (some ⟨b6, 4, none⟩)] 88 :: box b18 [.string ⟨#[105, 110, 116, 101, 108]⟩] 9 :: box b17 [.string ⟨#[109, 111, 116, 111, 114, 111, 108, 97]⟩] 9 :: box b16 [.pointer (some ⟨b6, 3, none⟩)] 88 :: box b15 [.pointer (some ⟨b6, 2, none⟩)] 86 :: box b14 [.pointer (some ⟨b6, 1, none⟩)] 86 :: box b13 [pt b6] 84 :: box b6 kvP14_1 57 :: box b5 [.string ByteArray.empty, iv 0, iv 0, .bool false, .slice none 0 0] 34 :: (K14T0 la lc A lb ld B ra rc out b4 Pz b3 b2 b1)) w47 := S84
  clear S83
  refine J.run 1 K14_90 ((83, .pointer (some ⟨b6, 5, none⟩)) :: (82, .func (.func 63) #[] #[pt b20, pt b19, pt b21]) :: (80, .func (.func 63) #[] #[pt b17, pt b16, pt b18]) :: (78, .func (.func 60) #[] #[pt b15]) :: (76, .func (.func 60) #[] #[pt b14]) :: (74, .func (.func 59) #[] #[pt b13]) :: (14, iv 0) :: (12, pt b6) :: (11, pt b5) :: (10, iv ((x.size : Int) + 1)) :: (9, .slice lb B.length ld) :: (8, .slice la A.length lc) :: (6, iv i) :: (K14E0 i Pz b4 b3 b2 b1)) w47 (by kernel_rfl) ?_
  refine J.callF 84 40 #[.pointer (some ⟨b6, 5, none⟩)] hb40 (by kernel_rfl) (mknumber_any (some ⟨b6, 5, none⟩) _ _ _ S84) ?_
  rintro _ w48 ⟨b22, rfl, S85⟩
  replace S85 : Sep w (box b22 [.pointer (some ⟨b6, 5, none⟩)] 86 :: box b21 [.string ⟨#[117, 110, 115, 105, 103, 110, 101, 100]⟩] 9 :: box b20 [.string ⟨#[115, 105, 103, 110, 101, 100]⟩] 9 :: box b19 [.pointer (some ⟨b6, 4, none⟩)] 88 :: box b18 [.string ⟨#[105, 110, 116, 101, 108]⟩] 9 :: box b17 [.string ⟨#[109, 111, 116, 111, 114, 111, 108, 97]⟩] 9 :: box b16 [.pointer (some ⟨b6, 3, none⟩)] 88 :: box b15 [.pointer (some ⟨b6, 2, none⟩)] 86 :: box b14 [.pointer (some ⟨b6, 1, none⟩)] 86 :: box b13 [pt b6] 84 :: box b6 kvP14_1 57 :: box b5 [.string ByteArray.empty, iv 0, iv 0, .bool false, .slice none 0 0] 34 :: (K14T0 la lc A lb ld B ra rc out b4 Pz b3 b2 b1)) w48 := S85
  clear S84
  refine J.run 1 K14_91 ((85, .pointer (some ⟨b6, 6, none⟩)) :: (84, .func (.func 60) #[] #[pt b22]) :: (82, .func (.func 63) #[] #[pt b20, pt b19, pt b21]) :: (80, .func (.func 63) #[] #[pt b17, pt b16, pt b18]) :: (78, .func (.func 60) #[] #[pt b15]) :: (76, .func (.func 60) #[] #[pt b14]) :: (74, .func (.func 59) #[] #[pt b13]) :: (14, iv 0) :: (12, pt b6) :: (11, pt b5) :: (10, iv ((x.size : Int) + 1)) :: (9, .slice lb B.length ld) :: (8, .slice la A.length lc) :: (6, iv i) :: (K14E0 i Pz b4 b3 b2 b1)) w48 (by kernel_rfl) ?_
  refine J.callF 86 40 #[.pointer (some ⟨b6, 6, none⟩)] hb40 (by kernel_rfl) (mknumber_any (some ⟨b6, 6, none⟩) _ _ _ S85) ?_
  rintro _ w49 ⟨b23, rfl, S86⟩
  replace S86 : Sep w (box b23 [.pointer (some ⟨b6, 6, none⟩)] 86 :: box b22 [.pointer (some ⟨b6, 5, none⟩)] 86 :: box b21 [.string ⟨#[117, 110, 115, 105, 103, 110, 101, 100]⟩] 9 :: box b20 [.string ⟨#[115, 105, 103, 110, 101, 100]⟩] 9 :: box b19 [.pointer (some ⟨b6, 4, none⟩)] 88 :: box b18 [.string ⟨#[105, 110, 116, 101, 108]⟩] 9 :: box b17 [.string ⟨#[109, 111, 116, 111, 114, 111, 108, 97]⟩] 9 :: box b16 [.pointer (some ⟨b6, 3, none⟩)] 88 :: box b15 [.pointer (some ⟨b6, 2, none⟩)] 86 :: box b14 [.pointer (some ⟨b6, 1, none⟩)] 86 :: box b13 [pt b6] 84 :: box b6 kvP14_1 57 :: box b5 [.string ByteArray.empty, iv 0, iv 0, .bool false, .slice none 0 0] 34 :: (K14T0 la lc A lb ld B ra rc out b4 Pz b3 b2 b1)) w49 := S86
  clear S85
  refine J.run 1 K14_92 ((87, .pointer (some ⟨b6, 7, none⟩)) :: (86, .func (.func 60) #[] #[pt b23]) :: (84, .func (.func 60) #[] #[pt b22]) :: (82, .func (.func 63) #[] #[pt b20, pt b19, pt b21]) :: (80, .func (.func 63) #[] #[pt b17, pt b16, pt b18]) :: (78, .func (.func 60) #[] #[pt b15]) :: (76, .func (.func 60) #[] #[pt b14]) :: (74, .func (.func 59) #[] #[pt b13]) :: (14, iv 0) :: (12, pt b6) :: (11, pt b5) :: (10, iv ((x.size : Int) + 1)) :: (9, .slice lb B.length ld) :: (8, .slice la A.length lc) :: (6, iv i) :: (K14E0 i Pz b4 b3 b2 b1)) w49 (by kernel_rfl) ?_
  refine J.callF 88 40 #[.pointer (some ⟨b6, 7, none⟩)] hb40 (by kernel_rfl) (mknumber_any (some ⟨b6, 7, none⟩) _ _ _ S86) ?_
  rintro _ w50 ⟨b24, rfl, S87⟩
  replace S87 : Sep w (box b24 [.pointer (some ⟨b6, 7, none⟩)] 86 :: box b23 [.pointer (some ⟨b6, 6, none⟩)] 86 :: box b22 [.pointer (some ⟨b6, 5, none⟩)] 86 :: box b21 [.string ⟨#[117, 110, 115, 105, 103, 110, 101, 100]⟩] 9 :: box b20 [.string ⟨#[115, 105, 103, 110, 101, 100]⟩] 9 :: box b19 [.pointer (some ⟨b6, 4, none⟩)] 88 :: box b18 [.string ⟨#[105, 110, 116, 101, 108]⟩] 9 :: box b17 [.string ⟨#[109, 111, 116, 111, 114, 111, 108, 97]⟩] 9 :: box b16 [.pointer (some ⟨b6, 3, none⟩)] 88 :: box b15 [.pointer (some ⟨b6, 2, none⟩)] 86 :: box b14 [.pointer (some ⟨b6, 1, none⟩)] 86 :: box b13 [pt b6] 84 :: box b6 kvP14_1 57 :: box b5 [.string ByteArray.empty, iv 0, iv 0, .bool false, .slice none 0 0] 34 :: (K14T0 la lc A lb ld B ra rc out b4 Pz b3 b2 b1)) w50 := S87
  clear S86
  refine J.run 1 K14_93 ((89, .pointer (some ⟨b6, 8, none⟩)) :: (88, .func (.func 60) #[] #[pt b24]) :: (86, .func (.func 60) #[] #[pt b23]) :: (84, .func (.func 60) #[] #[pt b22]) :: (82, .func (.func 63) #[] #[pt b20, pt b19, pt b21]) :: (80, .func (.func 63) #[] #[pt b17, pt b16, pt b18]) :: (78, .func (.func 60) #[] #[pt b15]) :: (76, .func (.func 60) #[] #[pt b14]) :: (74, .func (.func 59) #[] #[pt b13]) :: (14, iv 0) :: (12, pt b6) :: (11, pt b5) :: (10, iv ((x.size : Int) + 1)) :: (9, .slice lb B.length ld) :: (8, .slice la A.length lc) :: (6, iv i) :: (K14E0 i Pz b4 b3 b2 b1)) w50 (by kernel_rfl) ?_
  refine J.callF 90 40 #[.pointer (some ⟨b6, 8, none⟩)] hb40 (by kernel_rfl) (mknumber_any (some ⟨b6, 8, none⟩) _ _ _ S87) ?_
  rintro _ w51 ⟨b25, rfl, S88⟩
  replace S88 : Sep w (box b25 [.pointer (some ⟨b6, 8, none⟩)] 86 :: box b24 [.pointer (some ⟨b6, 7, none⟩)] 86 :: box b23 [.pointer (some ⟨b6, 6, none⟩)] 86 :: box b22 [.pointer (some ⟨b6, 5, none⟩)] 86 :: box b21 [.string ⟨#[117, 110, 115, 105, 103, 110, 101, 100]⟩] 9 :: box b20 [.string ⟨#[115, 105, 103, 110, 101, 100]⟩] 9 :: box b19 [.pointer (some ⟨b6, 4, none⟩)] 88 :: box b18 [.string ⟨#[105, 110, 116, 101, 108]⟩] 9 :: box b17 [.string ⟨#[109, 111, 116, 111, 114, 111, 108, 97]⟩] 9 :: box b16 [.pointer (some ⟨b6, 3, none⟩)] 88 :: box b15 [.pointer (some ⟨b6, 2, none⟩)] 86 :: box b14 [.pointer (some ⟨b6, 1, none⟩)] 86 :: box b13 [pt b6] 84 :: box b6 kvP14_1 57 :: box b5 [.string ByteArray.empty, iv 0, iv 0, .bool false, .slice none 0 0] 34 :: (K14T0 la lc A lb ld B ra rc out b4 Pz b3 b2 b1)) w51 := S88
  clear S87
  refine J.run 1 K14_94 ((91, .pointer (some ⟨b6, 9, none⟩)) :: (90, .func (.func 60) #[] #[pt b25]) :: (88, .func (.func 60) #[] #[pt b24]) :: (86, .func (.func 60) #[] #[pt b23]) :: (84, .func (.func 60) #[] #[pt b22]) :: (82, .func (.func 63) #[] #[pt b20, pt b19, pt b21]) :: (80, .func (.func 63) #[] #[pt b17, pt b16, pt b18]) :: (78, .func (.func 60) #[] #[pt b15]) :: (76, .func (.func 60) #[] #[pt b14]) :: (74, .func (.func 59) #[] #[pt b13]) :: (14, iv 0) :: (12, pt b6) :: (11, pt b5) :: (10, iv ((x.size : Int) + 1)) :: (9, .slice lb B.length ld) :: (8, .slice la A.length lc) :: (6, iv i) :: (K14E0 i Pz b4 b3 b2 b1)) w51 (by kernel_rfl) ?_
  refine J.callF 92 40 #[.pointer (some ⟨b6, 9, none⟩)] hb40 (by kernel_rfl) (mknumber_any (some ⟨b6, 9, none⟩) _ _ _ S88) ?_
  rintro _ w52 ⟨b26, rfl, S89⟩
  replace S89 : Sep w (box b26 [.pointer (some ⟨b6, 9, none⟩)] 86 :: box b25 [.pointer (some ⟨b6, 8, none⟩)] 86 :: box b24 [.pointer (some ⟨b6, 7, none⟩)] 86 :: box b23 [.pointer (some ⟨b6, 6, none⟩)] 86 :: box b22 [.pointer (some ⟨b6, 5, none⟩)] 86 :: box b21 [.string ⟨#[117, 110, 115, 105, 103, 110, 101, 100]⟩] 9 :: box b20 [.string ⟨#[115, 105, 103, 110, 101, 100]⟩] 9 :: box b19 [.pointer (some ⟨b6, 4, none⟩)] 88 :: box b18 [.string ⟨#[105, 110, 116, 101, 108]⟩] 9 :: box b17 [.string ⟨#[109, 111, 116, 111, 114, 111, 108, 97]⟩] 9 :: box b16 [.pointer (some ⟨b6, 3, none⟩)] 88 :: box b15 [.pointer (some ⟨b6, 2, none⟩)] 86 :: box b14 [.pointer (some ⟨b6, 1, none⟩)] 86 :: box b13 [pt b6] 84 :: box b6 kvP14_1 57 :: box b5 [.string ByteArray.empty, iv 0, iv 0, .bool false, .slice none 0 0] 34 :: (K14T0 la lc A lb ld B ra rc out b4 Pz b3 b2 b1)) w52 := S89
  clear S88
  refine J.newSlice S89 93 10 [.func (.func 59) #[] #[pt b13], .func (.func 60) #[] #[pt b14], .func (.func 60) #[] #[pt b15], .func (.func 63) #[] #[pt b17, pt b16, pt b18], .func (.func 63) #[] #[pt b20, pt b19, pt b21], .func (.func 60) #[] #[pt b22], .func (.func 60) #[] #[pt b23], .func (.func 60) #[] #[pt b24], .func (.func 60) #[] #[pt b25], .func (.func 60) #[] #[pt b26]] 82 (by kernel_rfl) ?_
  intro b27 w53 S90
  refine J.run 7 K14_95 ((94, .slice la A.length lc) :: (13, .slice (some ⟨b27, 0, none⟩) 10 10) :: (14, iv 0) :: (12, pt b6) :: (11, pt b5) :: (10, iv ((x.size : Int) + 1)) :: (9, .slice lb B.length ld) :: (8, .slice la A.length lc) :: (6, iv i) :: (K14E0 i Pz b4 b3 b2 b1)) w53 (by kernel_rfl) ?_
  have := (rowOf_cells (S90.nth 17 rfl)).2.2
  refine J.ok (OK.slice 95 49 1 la A.length lc (some (iv 1)) none 1 A.length (by kernel_rfl) (by kernel_rfl) (.inr ⟨_, _, rfl, rfl⟩) (.inl ⟨rfl, rfl⟩) (by first | omega | (simp; omega)) (by first | omega | (simp; omega))) ?_
  have := List.length_drop (i := 1) (l := A)
  refine J.run 5 K14_96 ((97, iv 0) :: (96, iv ((A.length - 1 : Nat) : Int)) :: (95, .slice (subA la lc 1 1) (A.length - 1) (lc - 1)) :: (13, .slice (some ⟨b27, 0, none⟩) 10 10) :: (14, iv 0) :: (12, pt b6) :: (11, pt b5) :: (10, iv ((x.size : Int) + 1)) :: (9, .slice lb B.length ld) :: (8, .slice la A.length lc) :: (6, iv i) :: (K14E0 i Pz b4 b3 b2 b1)) w53 (by kernel_rfl) ?_
  have S91 : Sep w (box b27 [.func (.func 59) #[] #[pt b13], .func (.func 60) #[] #[pt b14], .func (.func 60) #[] #[pt b15], .func (.func 63) #[] #[pt b17, pt b16, pt b18], .func (.func 63) #[] #[pt b20, pt b19, pt b21], .func (.func 60) #[] #[pt b22], .func (.func 60) #[] #[pt b23], .func (.func 60) #[] #[pt b24], .func (.func 60) #[] #[pt b25], .func (.func 60) #[] #[pt b26]] 82 :: box b26 [.pointer (some ⟨b6, 9, none⟩)] 86 :: box b25 [.pointer (some ⟨b6, 8, none⟩)] 86 :: box b24 [.pointer (some ⟨b6, 7, none⟩)] 86 :: box b23 [.pointer (some ⟨b6, 6, none⟩)] 86 :: box b22 [.pointer (some ⟨b6, 5, none⟩)] 86 :: box b21 [.string ⟨#[117, 110, 115, 105, 103, 110, 101, 100]⟩] 9 :: box b20 [.string ⟨#[115, 105, 103, 110, 101, 100]⟩] 9 :: box b19 [.pointer (some ⟨b6, 4, none⟩)] 88 :: box b18 [.string ⟨#[105, 110, 116, 101, 108]⟩] 9 :: box b17 [.string ⟨#[109, 111, 116, 111, 114, 111, 108, 97]⟩] 9 :: box b16 [.pointer (some ⟨b6, 3, none⟩)] 88 :: box b15 [.pointer (some ⟨b6, 2, none⟩)] 86 :: box b14 [.pointer (some ⟨b6, 1, none⟩)] 86 :: box b13 [pt b6] 84 :: box b6 kvP14_1 57 :: (K14T0 la lc A lb ld B ra rc out b4 Pz b3 b2 b1)) w53 := S90.sub (.cons_cons _ (.cons_cons _ (.cons_cons _ (.cons_cons _ (.cons_cons _ (.cons_cons _ (.cons_cons _ (.cons_cons _ (.cons_cons _ (.cons_cons _ (.cons_cons _ (.cons_cons _ (.cons_cons _ (.cons_cons _ (.cons_cons _ (.cons_cons _ (.cons _ (.cons_cons _ (.cons_cons _ (.cons_cons _ (.cons_cons _ (.cons_cons _ (.cons_cons _ (.cons_cons _ (List.Sublist.refl _)))))))))))))))))))))))))
  clear S90
  have S92 := S91.front 15 rfl
  clear S91
  replace S92 : Sep w (box b6 kvP14_1 57 :: (K14TS b27 b13 b14 b15 b17 b16 b18 b20 b19 b21 b22 b23 b24 b25 b26 b6 la lc A lb ld B ra rc out b4 Pz b3 b2 b1)) w53 := S92
  have hkF : eqT (wAt L 0) WFr = false := by rw [← e_u1]; exact fk4
  have hkS : eqT (wAt L 0) WSg = true := by rw [← e_u1]; exact fk25
  have hZ : Z = rdS [0, 1, 1, 3, 4, 1, 1, 1, 1, 1] 0 (L.drop 1) ((x.size : Int) + 1) := by rw [hZl]; exact line_sig hkF hkS (by rw [some_cl]; exact decide_eq_true (by omega))
  refine J.run 5 K14_97 ((98, .bool (decide (0 < ((A.length - 1 : Nat) : Int)))) :: (97, iv 0) :: (96, iv ((A.length - 1 : Nat) : Int)) :: (95, .slice (subA la lc 1 1) (A.length - 1) (lc - 1)) :: (K14ES b27 b6 b5 x lb B ld la A lc i Pz b4 b3 b2 b1)) w53 (by kernel_rfl) ?_
  by_cases fk27 : 0 < ((A.length - 1 : Nat) : Int)
  rotate_left
  ·skip
   refine J.head (.bool false) (congrArg Value.bool (decide_eq_false fk27)) ?_
   have S284 : Sep w [box b2 [iv 0, iv 0] 40, box b1 [.slice none 0 0] 24] w53 := S92.sub (.cons _ (.cons _ (.cons _ (.cons _ (.cons _ (.cons _ (.cons _ (.cons _ (.cons _ (.cons _ (.cons _ (.cons _ (.cons _ (.cons _ (.cons _ (.cons _ (.cons _ (.cons _ (.cons _ (.cons _ (.cons _ (.cons_cons _ (.cons_cons _ (List.nil_sublist _))))))))))))))))))))))))
   clear S92
   refine J.run 8 K14_222 ((127, iv (IntKind.wrap .i64 ((A.length : Int) - 1))) :: (13, .slice (some ⟨b27, 0, none⟩) 10 10) :: (14, iv 0) :: (12, pt b6) :: (11, pt b5) :: (10, iv ((x.size : Int) + 1)) :: (8, .slice la A.length lc) :: (6, iv i) :: (K14E0 i Pz b4 b3 b2 b1)) w53 (by kernel_rfl) ?_
   refine J.head (iv ((A.length : Int) - 1)) (congrArg (Value.int .i64) (IntWalk.i64_in _ (by omega))) ?_
   refine J.run 6 K14_223 ((132, .bool (decide (((A.length : Int) - 1) < 10))) :: (12, pt b6) :: (11, pt b5) :: (10, iv ((x.size : Int) + 1)) :: (8, .slice la A.length lc) :: (6, iv i) :: (K14E0 i Pz b4 b3 b2 b1)) w53 (by kernel_rfl) ?_
   have fk69 : ((A.length : Int) - 1) < 10 := by omega
   refine J.head (.bool true) (congrArg Value.bool (decide_eq_true fk69)) ?_
   refine J.run 6 K14_224 [(135, iv (IntKind.wrap .i64 (i + 1))), (133, .agg #[.slice none 0 0]), (10, iv ((x.size : Int) + 1)), (3, pt b2), (2, pt b1)] w53 (by kernel_rfl) ?_
   refine J.head (iv (i + 1)) (congrArg (Value.int .i64) (IntWalk.i64_in _ (by omega))) ?_
   refine J.run 2 K14_225 [(137, .agg #[iv (i + 1), iv ((x.size : Int) + 1)]), (133, .agg #[.slice none 0 0]), (3, pt b2), (2, pt b1)] w53 (by kernel_rfl) ?_
   refine J.stBox S284 1 24 0 (.agg #[.slice none 0 0]) [.slice none 0 0] [box b2 [iv 0, iv 0] 40, box b1 [.slice none 0 0] 24] (by kernel_rfl) rfl (by kernel_rfl) (by kernel_rfl) rfl ?_
   intro w123 S285
   refine J.stBox S285 0 40 0 (.agg #[iv (i + 1), iv ((x.size : Int) + 1)]) [iv (i + 1), iv ((x.size : Int) + 1)] [box b2 [iv (i + 1), iv ((x.size : Int) + 1)] 40, box b1 [.slice none 0 0] 24] (by kernel_rfl) rfl (by kernel_rfl) (by kernel_rfl) rfl ?_
   intro w124 S286
   refine J.run 2 K14_226 [(4, iv 4), (3, pt b2), (2, pt b1)] w124 (by kernel_rfl) ?_
   refine J.ret Tryd.f14 [.agg #[.slice none 0 0], .agg #[iv (i + 1), iv ((x.size : Int) + 1)], iv 4] Tryd.func14 ⟨⟨⟨b1, 0, none⟩, by kernel_rfl, ldV_run (S286.nth 1 rfl) (by kernel_rfl)⟩, ⟨⟨b2, 0, none⟩, by kernel_rfl, ldV_run (S286.nth 0 rfl) (by kernel_rfl)⟩, by kernel_rfl, trivial⟩ ?_
   refine hR _ _ ?_
   exact bad_post (bad_line hQ h0 (by omega) hx1 hL (by omega) hZl (rd_few hZ (by omega) (by decide))) S286
  refine J.head (.bool true) (congrArg Value.bool (decide_eq_true fk27)) ?_
  refine J.run 7 K14_98 ((99, iv 0) :: (97, iv 0) :: (96, iv ((A.length - 1 : Nat) : Int)) :: (95, .slice (subA la lc 1 1) (A.length - 1) (lc - 1)) :: (K14ES b27 b6 b5 x lb B ld la A lc i Pz b4 b3 b2 b1)) w53 (by kernel_rfl) ?_
  obtain ⟨p12, hp12, hc7⟩ := (ones_drop (row1_ones (S92.nth 16 rfl) _ rfl) lc 1 (by omega) (by omega)).at ByteArray.empty 0 (by omega)
  refine J.ok (OK.index 100 49 1 (subA la lc 1 1) p12 (A.length - 1) 0 0 (p12.add 0) (by kernel_rfl) (by kernel_rfl) hp12 (by omega) (by omega) (by rw [Nat.mul_one])) ?_
  refine J.ok (OK.ldCell 101 9 (p12.add 0) (.string ((A.drop 1).getD 0 ByteArray.empty)) (by kernel_rfl) (by kernel_rfl) hc7) ?_
  obtain ⟨u7, hu7⟩ : ∃ x : ByteArray, x = (A.drop 1).getD 0 ByteArray.empty := ⟨_, rfl⟩
  have e_u7 : u7 = wAt L 1 := by rw [hu7, hA]; exact fst_drop L 0
  have z_u7 : u7.size ≤ 1000000 := by rw [e_u7]; exact hws _
  refine J.head (.string u7) (congrArg Value.string hu7.symm) ?_
  refine J.run 12 K14_99 ((108, iv 0) :: (107, .slice (some ⟨b27, 0, none⟩) 10 10) :: (106, .bool false) :: (16, .string u7) :: (15, iv 0) :: (97, iv 0) :: (96, iv ((A.length - 1 : Nat) : Int)) :: (95, .slice (subA la lc 1 1) (A.length - 1) (lc - 1)) :: (K14ES b27 b6 b5 x lb B ld la A lc i Pz b4 b3 b2 b1)) w53 (by kernel_rfl) ?_
  refine J.ok (OK.index 109 81 1 (some ⟨b27, 0, none⟩) ⟨b27, 0, none⟩ 10 0 0 ⟨b27, 0, none⟩ (by kernel_rfl) (by kernel_rfl) rfl (by omega) (by omega) (by rfl)) ?_
  refine J.ok (OK.ldBox S92 1 110 82 0 (.func (.func 59) #[] #[pt b13]) (by kernel_rfl) rfl (by kernel_rfl)) ?_
  refine J.run 1 K14_100 ((111, .string u7) :: (110, .func (.func 59) #[] #[pt b13]) :: (106, .bool false) :: (15, iv 0) :: (97, iv 0) :: (96, iv ((A.length - 1 : Nat) : Int)) :: (95, .slice (subA la lc 1 1) (A.length - 1) (lc - 1)) :: (K14ES b27 b6 b5 x lb B ld la A lc i Pz b4 b3 b2 b1)) w53 (by kernel_rfl) ?_
  have S93 := S92.front 15 rfl
  clear S92
  refine J.callF 112 59 #[.string u7, pt b13] hb59 (by kernel_rfl) (text57_0 b6 b13 (.string ByteArray.empty) (iv 0) (iv 0) (.bool false) (.bool false) (iv 0) (iv 0) (iv 0) (iv 0) (iv 0) u7 _ _ _ S93) ?_
  rintro _ w54 ⟨rfl, S94⟩
  clear S93
  have S95 := S94.front 15 rfl
  clear S94
  have S96 := S95.front 15 rfl
  clear S95
  have S97 := S96.front 15 rfl
  clear S96
  have S98 := S97.front 15 rfl
  clear S97
  have S99 := S98.front 15 rfl
  clear S98
  have S100 := S99.front 15 rfl
  clear S99
  have S101 := S100.front 15 rfl
  clear S100
  have S102 := S101.front 15 rfl
  clear S101
  have S103 := S102.front 15 rfl
  clear S102
  have S104 := S103.front 15 rfl
  clear S103
  have S105 := S104.front 15 rfl
  clear S104
  have S106 := S105.front 15 rfl
  clear S105
  have S107 := S106.front 15 rfl
  clear S106
  have S108 := S107.front 15 rfl
  clear S107
  have S109 : Sep w (box b6 [.string u7, iv 0, iv 0, .bool false, .bool false, iv 0, iv 0, iv 0, iv 0, iv 0] 57 :: (K14TS b27 b13 b14 b15 b17 b16 b18 b20 b19 b21 b22 b23 b24 b25 b26 b6 la lc A lb ld B ra rc out b4 Pz b3 b2 b1)) w54 := S108.front 15 rfl
  clear S108
  replace hZ : Z = rdS [1, 1, 3, 4, 1, 1, 1, 1, 1] 0 (L.drop 2) ((x.size : Int) + 1) := rd_ok hZ (by omega) (by rw [← e_u7]; exact rfl)
  refine J.run 11 K14_101 ((97, iv 1) :: (96, iv ((A.length - 1 : Nat) : Int)) :: (95, .slice (subA la lc 1 1) (A.length - 1) (lc - 1)) :: (K14ES b27 b6 b5 x lb B ld la A lc i Pz b4 b3 b2 b1)) w54 (by kernel_rfl) ?_
  refine J.run 5 K14_102 ((98, .bool (decide (1 < ((A.length - 1 : Nat) : Int)))) :: (97, iv 1) :: (96, iv ((A.length - 1 : Nat) : Int)) :: (95, .slice (subA la lc 1 1) (A.length - 1) (lc - 1)) :: (K14ES b27 b6 b5 x lb B ld la A lc i Pz b4 b3 b2 b1)) w54 (by kernel_rfl) ?_
  by_cases fk28 : 1 < ((A.length - 1 : Nat) : Int)
  rotate_left
  ·skip
   refine J.head (.bool false) (congrArg Value.bool (decide_eq_false fk28)) ?_
   have S281 : Sep w [box b2 [iv 0, iv 0] 40, box b1 [.slice none 0 0] 24] w54 := S109.sub (.cons _ (.cons _ (.cons _ (.cons _ (.cons _ (.cons _ (.cons _ (.cons _ (.cons _ (.cons _ (.cons _ (.cons _ (.cons _ (.cons _ (.cons _ (.cons _ (.cons _ (.cons _ (.cons _ (.cons _ (.cons _ (.cons_cons _ (.cons_cons _ (List.nil_sublist _))))))))))))))))))))))))
   clear S109
   refine J.run 8 K14_217 ((127, iv (IntKind.wrap .i64 ((A.length : Int) - 1))) :: (13, .slice (some ⟨b27, 0, none⟩) 10 10) :: (14, iv 0) :: (12, pt b6) :: (11, pt b5) :: (10, iv ((x.size : Int) + 1)) :: (8, .slice la A.length lc) :: (6, iv i) :: (K14E0 i Pz b4 b3 b2 b1)) w54 (by kernel_rfl) ?_
   refine J.head (iv ((A.length : Int) - 1)) (congrArg (Value.int .i64) (IntWalk.i64_in _ (by omega))) ?_
   refine J.run 6 K14_218 ((132, .bool (decide (((A.length : Int) - 1) < 10))) :: (12, pt b6) :: (11, pt b5) :: (10, iv ((x.size : Int) + 1)) :: (8, .slice la A.length lc) :: (6, iv i) :: (K14E0 i Pz b4 b3 b2 b1)) w54 (by kernel_rfl) ?_
   have fk67 : ((A.length : Int) - 1) < 10 := by omega
   refine J.head (.bool true) (congrArg Value.bool (decide_eq_true fk67)) ?_
   refine J.run 6 K14_219 [(135, iv (IntKind.wrap .i64 (i + 1))), (133, .agg #[.slice none 0 0]), (10, iv ((x.size : Int) + 1)), (3, pt b2), (2, pt b1)] w54 (by kernel_rfl) ?_
   refine J.head (iv (i + 1)) (congrArg (Value.int .i64) (IntWalk.i64_in _ (by omega))) ?_
   refine J.run 2 K14_220 [(137, .agg #[iv (i + 1), iv ((x.size : Int) + 1)]), (133, .agg #[.slice none 0 0]), (3, pt b2), (2, pt b1)] w54 (by kernel_rfl) ?_
   refine J.stBox S281 1 24 0 (.agg #[.slice none 0 0]) [.slice none 0 0] [box b2 [iv 0, iv 0] 40, box b1 [.slice none 0 0] 24] (by kernel_rfl) rfl (by kernel_rfl) (by kernel_rfl) rfl ?_
   intro w121 S282
   refine J.stBox S282 0 40 0 (.agg #[iv (i + 1), iv ((x.size : Int) + 1)]) [iv (i + 1), iv ((x.size : Int) + 1)] [box b2 [iv (i + 1), iv ((x.size : Int) + 1)] 40, box b1 [.slice none 0 0] 24] (by kernel_rfl) rfl (by kernel_rfl) (by kernel_rfl) rfl ?_
   intro w122 S283
   refine J.run 2 K14_221 [(4, iv 4), (3, pt b2), (2, pt b1)] w122 (by kernel_rfl) ?_
   refine J.ret Tryd.f14 [.agg #[.slice none 0 0], .agg #[iv (i + 1), iv ((x.size : Int) + 1)], iv 4] Tryd.func14 ⟨⟨⟨b1, 0, none⟩, by kernel_rfl, ldV_run (S283.nth 1 rfl) (by kernel_rfl)⟩, ⟨⟨b2, 0, none⟩, by kernel_rfl, ldV_run (S283.nth 0 rfl) (by kernel_rfl)⟩, by kernel_rfl, trivial⟩ ?_
   refine hR _ _ ?_
   exact bad_post (bad_line hQ h0 (by omega) hx1 hL (by omega) hZl (rd_few hZ (by omega) (by decide))) S283
  refine J.head (.bool true) (congrArg Value.bool (decide_eq_true fk28)) ?_
  refine J.run 7 K14_103 ((99, iv 1) :: (97, iv 1) :: (96, iv ((A.length - 1 : Nat) : Int)) :: (95, .slice (subA la lc 1 1) (A.length - 1) (lc - 1)) :: (K14ES b27 b6 b5 x lb B ld la A lc i Pz b4 b3 b2 b1)) w54 (by kernel_rfl) ?_
  obtain ⟨p13, hp13, hc8⟩ := (ones_drop (row1_ones (S109.nth 16 rfl) _ rfl) lc 1 (by omega) (by omega)).at ByteArray.empty 1 (by omega)
  refine J.ok (OK.index 100 49 1 (subA la lc 1 1) p13 (A.length - 1) 1 1 (p13.add 1) (by kernel_rfl) (by kernel_rfl) hp13 (by omega) (by omega) (by rw [Nat.mul_one])) ?_
  refine J.ok (OK.ldCell 101 9 (p13.add 1) (.string ((A.drop 1).getD 1 ByteArray.empty)) (by kernel_rfl) (by kernel_rfl) hc8) ?_
  obtain ⟨u8, hu8⟩ : ∃ x : ByteArray, x = (A.drop 1).getD 1 ByteArray.empty := ⟨_, rfl⟩
  have e_u8 : u8 = wAt L 2 := by rw [hu8, hA]; exact fst_drop L 1
  have z_u8 : u8.size ≤ 1000000 := by rw [e_u8]; exact hws _
  refine J.head (.string u8) (congrArg Value.string hu8.symm) ?_
  refine J.run 12 K14_104 ((108, iv 1) :: (107, .slice (some ⟨b27, 0, none⟩) 10 10) :: (106, .bool false) :: (16, .string u8) :: (15, iv 1) :: (97, iv 1) :: (96, iv ((A.length - 1 : Nat) : Int)) :: (95, .slice (subA la lc 1 1) (A.length - 1) (lc - 1)) :: (K14ES b27 b6 b5 x lb B ld la A lc i Pz b4 b3 b2 b1)) w54 (by kernel_rfl) ?_
  refine J.ok (OK.index 109 81 1 (some ⟨b27, 0, none⟩) ⟨b27, 0, none⟩ 10 1 1 ⟨b27, 1, none⟩ (by kernel_rfl) (by kernel_rfl) rfl (by omega) (by omega) (by rfl)) ?_
  refine J.ok (OK.ldBox S109 1 110 82 1 (.func (.func 60) #[] #[pt b14]) (by kernel_rfl) rfl (by kernel_rfl)) ?_
  refine J.run 1 K14_105 ((111, .string u8) :: (110, .func (.func 60) #[] #[pt b14]) :: (106, .bool false) :: (15, iv 1) :: (97, iv 1) :: (96, iv ((A.length - 1 : Nat) : Int)) :: (95, .slice (subA la lc 1 1) (A.length - 1) (lc - 1)) :: (K14ES b27 b6 b5 x lb B ld la A lc i Pz b4 b3 b2 b1)) w54 (by kernel_rfl) ?_
  have S110 := S109.front 14 rfl
  clear S109
  refine J.callF 112 60 #[.string u8, pt b14] hb60 (by kernel_rfl) (number57_1 b6 b14 (.string u7) (iv 0) (iv 0) (.bool false) (.bool false) (iv 0) (iv 0) (iv 0) (iv 0) (iv 0) u8 _ _ _ S110 (by first | omega | exact hws _) hW) ?_
  rintro _ w55 ⟨rfl, S111⟩
  clear S110
  have S112 := S111.front 14 rfl
  clear S111
  have S113 := S112.front 14 rfl
  clear S112
  have S114 := S113.front 14 rfl
  clear S113
  have S115 := S114.front 14 rfl
  clear S114
  have S116 := S115.front 14 rfl
  clear S115
  have S117 := S116.front 14 rfl
  clear S116
  have S118 := S117.front 14 rfl
  clear S117
  have S119 := S118.front 14 rfl
  clear S118
  have S120 := S119.front 14 rfl
  clear S119
  have S121 := S120.front 14 rfl
  clear S120
  have S122 := S121.front 14 rfl
  clear S121
  have S123 := S122.front 14 rfl
  clear S122
  have S124 := S123.front 14 rfl
  clear S123
  have S125 : Sep w (box b6 [.string u7, iv (parX u8), iv 0, .bool false, .bool false, iv 0, iv 0, iv 0, iv 0, iv 0] 57 :: (K14TS b27 b13 b14 b15 b17 b16 b18 b20 b19 b21 b22 b23 b24 b25 b26 b6 la lc A lb ld B ra rc out b4 Pz b3 b2 b1)) w55 := S124.front 14 rfl
  clear S124
  refine J.run 3 K14_106 ((114, .bool (!(numOk u8))) :: (15, iv 1) :: (97, iv 1) :: (96, iv ((A.length - 1 : Nat) : Int)) :: (95, .slice (subA la lc 1 1) (A.length - 1) (lc - 1)) :: (K14ES b27 b6 b5 x lb B ld la A lc i Pz b4 b3 b2 b1)) w55 (by kernel_rfl) ?_
  rcases Bool.eq_false_or_eq_true (numOk u8) with fk29 | fk29
  rotate_left
  ·skip
   refine J.head (.bool true) (congrArg Value.bool (by rw [fk29]; rfl)) ?_
   have hbad := rd_bad hZ (by omega) (by rw [← e_u8]; exact fk29)
   have S277 : Sep w [rowOf Eng.encI lb ld 3 1 B, box b2 [iv 0, iv 0] 40, box b1 [.slice none 0 0] 24] w55 := S125.sub (.cons _ (.cons _ (.cons _ (.cons _ (.cons _ (.cons _ (.cons _ (.cons _ (.cons _ (.cons _ (.cons _ (.cons _ (.cons _ (.cons _ (.cons _ (.cons _ (.cons _ (.cons_cons _ (.cons _ (.cons _ (.cons _ (.cons_cons _ (.cons_cons _ (List.nil_sublist _))))))))))))))))))))))))
   clear S125
   refine J.run 2 K14_216 [(15, iv 1), (9, .slice lb B.length ld), (6, iv i), (3, pt b2), (2, pt b1)] w55 (by kernel_rfl) ?_
   obtain ⟨p33, hp33⟩ := row1_addr (S277.nth 0 rfl) (show 0 < (B).length by first | omega | (simp; omega))
   refine J.drawPlan (fun w_ => Sep w [rowOf Eng.encI lb ld 3 1 B, box b1 [.slice none 0 0] 24] w_) [(0, true), (1, true), (2, true), (3, true), (4, true), (5, true), (6, true), (7, true), (8, true), (9, false), (10, false), (11, true)] S277 Tryd.mixed (by kernel_rfl) (planOK_of (T := [(0, some 115, 0), (0, some 116, 64), (2, some 117, 83076749736557242056487941267521536), (0, some 118, 512), (0, some 119, 32768), (16, some 120, 664613997892457936451903530140172288), (40, some 121, 1661534994731144841129758825350430720), (64, some 122, 2658455991569831745807614120560689152), (132, some 123, 5483065482612777975728204123656421376), (1, none, 41538374868278621028243970633760772), (1023, none, 10633823966279326983230456482242756616), (2047, some 4, 0)]) (by kernel_rfl) (by kernel_rfl)) ?_
   intro w118 S278
   refine PB.mk (S278.erase 1) ?_
   refine PL.take 0 115 (.agg #[.slice none 0 0]) (fun _ _ => by kernel_rfl) ?_
   refine PL.take 1 116 (iv i) (fun _ _ => by kernel_rfl) ?_
   refine PL.take 2 117 (iv (IntKind.wrap .i64 (i + 1))) (fun _ _ => by kernel_rfl) ?_
   refine PL.head (iv (i + 1)) (congrArg (Value.int .i64) (IntWalk.i64_in _ (by omega))) ?_
   refine PL.take 3 118 (.slice lb B.length ld) (fun _ _ => by kernel_rfl) ?_
   refine PL.take 4 119 (iv 1) (fun _ _ => by kernel_rfl) ?_
   refine PL.take 5 120 (iv 2) (fun _ _ => by kernel_rfl) ?_
   refine PL.takeOK 6 (fun w_ S_ => OK.index 121 59 1 lb p33 B.length 2 2 (p33.add 2) (by kernel_rfl) (by kernel_rfl) hp33 (by omega) (by first | omega | (simp; omega)) (by rw [Nat.mul_one])) rfl ?_
   refine PL.takeOK 7 (fun w_ S_ => OK.ldCell 122 3 (p33.add 2) (iv (B.getD 2 0)) (by kernel_rfl) (by kernel_rfl) (row1_cell (g := (Value.int .i64)) S_ 0 rfl hp33 0 2 (by first | omega | (simp; omega)))) rfl ?_
   refine PL.take 8 123 (.agg #[iv (i + 1), iv (B.getD 2 0)]) (fun _ _ => by kernel_rfl) ?_
   refine PL.stBox S278 2 24 0 (.agg #[.slice none 0 0]) [.slice none 0 0] [rowOf Eng.encI lb ld 3 1 B, box b2 [iv 0, iv 0] 40, box b1 [.slice none 0 0] 24] (by kernel_rfl) rfl (by kernel_rfl) (by kernel_rfl) rfl ?_
   intro w119 S279
   refine PB.mk (S279.erase 1) ?_
   refine PL.stBox S279 1 40 0 (.agg #[iv (i + 1), iv (B.getD 2 0)]) [iv (i + 1), iv (B.getD 2 0)] [rowOf Eng.encI lb ld 3 1 B, box b2 [iv (i + 1), iv (B.getD 2 0)] 40, box b1 [.slice none 0 0] 24] (by kernel_rfl) rfl (by kernel_rfl) (by kernel_rfl) rfl ?_
   intro w120 S280
   refine PB.mk (S280.erase 1) ?_
   refine PL.take 11 4 (iv 3) (fun _ _ => by kernel_rfl) ?_
   refine PL.done ?_
   refine J.run 0 (rRest K14_216) [(4, iv 3), (3, pt b2), (2, pt b1)] w120 (by kernel_rfl) ?_
   refine J.ret Tryd.f14 [.agg #[.slice none 0 0], .agg #[iv (i + 1), iv (B.getD 2 0)], iv 3] Tryd.func14 ⟨⟨⟨b1, 0, none⟩, by kernel_rfl, ldV_run (S280.nth 2 rfl) (by kernel_rfl)⟩, ⟨⟨b2, 0, none⟩, by kernel_rfl, ldV_run (S280.nth 1 rfl) (by kernel_rfl)⟩, by kernel_rfl, trivial⟩ ?_
   refine hR _ _ ?_
   rw [show B.getD 2 0 = (L.getD 2 wd0).2 from by rw [hB]; exact snd_at L 2]
   exact bad_post (bad_line hQ h0 (by omega) hx1 hL (by omega) hZl hbad) S280
  refine J.head (.bool false) (congrArg Value.bool (by rw [fk29]; rfl)) ?_
  replace hZ : Z = rdS [1, 3, 4, 1, 1, 1, 1, 1] 0 (L.drop 3) ((x.size : Int) + 1) := rd_ok hZ (by omega) (by rw [← e_u8]; exact fk29)
  refine J.run 8 K14_107 ((97, iv 2) :: (96, iv ((A.length - 1 : Nat) : Int)) :: (95, .slice (subA la lc 1 1) (A.length - 1) (lc - 1)) :: (K14ES b27 b6 b5 x lb B ld la A lc i Pz b4 b3 b2 b1)) w55 (by kernel_rfl) ?_
  refine J.run 5 K14_108 ((98, .bool (decide (2 < ((A.length - 1 : Nat) : Int)))) :: (97, iv 2) :: (96, iv ((A.length - 1 : Nat) : Int)) :: (95, .slice (subA la lc 1 1) (A.length - 1) (lc - 1)) :: (K14ES b27 b6 b5 x lb B ld la A lc i Pz b4 b3 b2 b1)) w55 (by kernel_rfl) ?_
  by_cases fk30 : 2 < ((A.length - 1 : Nat) : Int)
  rotate_left
  ·skip
   refine J.head (.bool false) (congrArg Value.bool (decide_eq_false fk30)) ?_
   have S274 : Sep w [box b2 [iv 0, iv 0] 40, box b1 [.slice none 0 0] 24] w55 := S125.sub (.cons _ (.cons _ (.cons _ (.cons _ (.cons _ (.cons _ (.cons _ (.cons _ (.cons _ (.cons _ (.cons _ (.cons _ (.cons _ (.cons _ (.cons _ (.cons _ (.cons _ (.cons _ (.cons _ (.cons _ (.cons _ (.cons_cons _ (.cons_cons _ (List.nil_sublist _))))))))))))))))))))))))
   clear S125
   refine J.run 8 K14_211 ((127, iv (IntKind.wrap .i64 ((A.length : Int) - 1))) :: (13, .slice (some ⟨b27, 0, none⟩) 10 10) :: (14, iv 0) :: (12, pt b6) :: (11, pt b5) :: (10, iv ((x.size : Int) + 1)) :: (8, .slice la A.length lc) :: (6, iv i) :: (K14E0 i Pz b4 b3 b2 b1)) w55 (by kernel_rfl) ?_
   refine J.head (iv ((A.length : Int) - 1)) (congrArg (Value.int .i64) (IntWalk.i64_in _ (by omega))) ?_
   refine J.run 6 K14_212 ((132, .bool (decide (((A.length : Int) - 1) < 10))) :: (12, pt b6) :: (11, pt b5) :: (10, iv ((x.size : Int) + 1)) :: (8, .slice la A.length lc) :: (6, iv i) :: (K14E0 i Pz b4 b3 b2 b1)) w55 (by kernel_rfl) ?_
   have fk65 : ((A.length : Int) - 1) < 10 := by omega
   refine J.head (.bool true) (congrArg Value.bool (decide_eq_true fk65)) ?_
   refine J.run 6 K14_213 [(135, iv (IntKind.wrap .i64 (i + 1))), (133, .agg #[.slice none 0 0]), (10, iv ((x.size : Int) + 1)), (3, pt b2), (2, pt b1)] w55 (by kernel_rfl) ?_
   refine J.head (iv (i + 1)) (congrArg (Value.int .i64) (IntWalk.i64_in _ (by omega))) ?_
   refine J.run 2 K14_214 [(137, .agg #[iv (i + 1), iv ((x.size : Int) + 1)]), (133, .agg #[.slice none 0 0]), (3, pt b2), (2, pt b1)] w55 (by kernel_rfl) ?_
   refine J.stBox S274 1 24 0 (.agg #[.slice none 0 0]) [.slice none 0 0] [box b2 [iv 0, iv 0] 40, box b1 [.slice none 0 0] 24] (by kernel_rfl) rfl (by kernel_rfl) (by kernel_rfl) rfl ?_
   intro w116 S275
   refine J.stBox S275 0 40 0 (.agg #[iv (i + 1), iv ((x.size : Int) + 1)]) [iv (i + 1), iv ((x.size : Int) + 1)] [box b2 [iv (i + 1), iv ((x.size : Int) + 1)] 40, box b1 [.slice none 0 0] 24] (by kernel_rfl) rfl (by kernel_rfl) (by kernel_rfl) rfl ?_
   intro w117 S276
   refine J.run 2 K14_215 [(4, iv 4), (3, pt b2), (2, pt b1)] w117 (by kernel_rfl) ?_
   refine J.ret Tryd.f14 [.agg #[.slice none 0 0], .agg #[iv (i + 1), iv ((x.size : Int) + 1)], iv 4] Tryd.func14 ⟨⟨⟨b1, 0, none⟩, by kernel_rfl, ldV_run (S276.nth 1 rfl) (by kernel_rfl)⟩, ⟨⟨b2, 0, none⟩, by kernel_rfl, ldV_run (S276.nth 0 rfl) (by kernel_rfl)⟩, by kernel_rfl, trivial⟩ ?_
   refine hR _ _ ?_
   exact bad_post (bad_line hQ h0 (by omega) hx1 hL (by omega) hZl (rd_few hZ (by omega) (by decide))) S276
  refine J.head (.bool true) (congrArg Value.bool (decide_eq_true fk30)) ?_
  refine J.run 7 K14_109 ((99, iv 2) :: (97, iv 2) :: (96, iv ((A.length - 1 : Nat) : Int)) :: (95, .slice (subA la lc 1 1) (A.length - 1) (lc - 1)) :: (K14ES b27 b6 b5 x lb B ld la A lc i Pz b4 b3 b2 b1)) w55 (by kernel_rfl) ?_
  obtain ⟨p14, hp14, hc9⟩ := (ones_drop (row1_ones (S125.nth 16 rfl) _ rfl) lc 1 (by omega) (by omega)).at ByteArray.empty 2 (by omega)
  refine J.ok (OK.index 100 49 1 (subA la lc 1 1) p14 (A.length - 1) 2 2 (p14.add 2) (by kernel_rfl) (by kernel_rfl) hp14 (by omega) (by omega) (by rw [Nat.mul_one])) ?_
  refine J.ok (OK.ldCell 101 9 (p14.add 2) (.string ((A.drop 1).getD 2 ByteArray.empty)) (by kernel_rfl) (by kernel_rfl) hc9) ?_
  obtain ⟨u9, hu9⟩ : ∃ x : ByteArray, x = (A.drop 1).getD 2 ByteArray.empty := ⟨_, rfl⟩
  have e_u9 : u9 = wAt L 3 := by rw [hu9, hA]; exact fst_drop L 2
  have z_u9 : u9.size ≤ 1000000 := by rw [e_u9]; exact hws _
  refine J.head (.string u9) (congrArg Value.string hu9.symm) ?_
  refine J.run 12 K14_110 ((108, iv 2) :: (107, .slice (some ⟨b27, 0, none⟩) 10 10) :: (106, .bool false) :: (16, .string u9) :: (15, iv 2) :: (97, iv 2) :: (96, iv ((A.length - 1 : Nat) : Int)) :: (95, .slice (subA la lc 1 1) (A.length - 1) (lc - 1)) :: (K14ES b27 b6 b5 x lb B ld la A lc i Pz b4 b3 b2 b1)) w55 (by kernel_rfl) ?_
  refine J.ok (OK.index 109 81 1 (some ⟨b27, 0, none⟩) ⟨b27, 0, none⟩ 10 2 2 ⟨b27, 2, none⟩ (by kernel_rfl) (by kernel_rfl) rfl (by omega) (by omega) (by rfl)) ?_
  refine J.ok (OK.ldBox S125 1 110 82 2 (.func (.func 60) #[] #[pt b15]) (by kernel_rfl) rfl (by kernel_rfl)) ?_
  refine J.run 1 K14_111 ((111, .string u9) :: (110, .func (.func 60) #[] #[pt b15]) :: (106, .bool false) :: (15, iv 2) :: (97, iv 2) :: (96, iv ((A.length - 1 : Nat) : Int)) :: (95, .slice (subA la lc 1 1) (A.length - 1) (lc - 1)) :: (K14ES b27 b6 b5 x lb B ld la A lc i Pz b4 b3 b2 b1)) w55 (by kernel_rfl) ?_
  have S126 := S125.front 13 rfl
  clear S125
  refine J.callF 112 60 #[.string u9, pt b15] hb60 (by kernel_rfl) (number57_2 b6 b15 (.string u7) (iv (parX u8)) (iv 0) (.bool false) (.bool false) (iv 0) (iv 0) (iv 0) (iv 0) (iv 0) u9 _ _ _ S126 (by first | omega | exact hws _) hW) ?_
  rintro _ w56 ⟨rfl, S127⟩
  clear S126
  have S128 := S127.front 13 rfl
  clear S127
  have S129 := S128.front 13 rfl
  clear S128
  have S130 := S129.front 13 rfl
  clear S129
  have S131 := S130.front 13 rfl
  clear S130
  have S132 := S131.front 13 rfl
  clear S131
  have S133 := S132.front 13 rfl
  clear S132
  have S134 := S133.front 13 rfl
  clear S133
  have S135 := S134.front 13 rfl
  clear S134
  have S136 := S135.front 13 rfl
  clear S135
  have S137 := S136.front 13 rfl
  clear S136
  have S138 := S137.front 13 rfl
  clear S137
  have S139 := S138.front 13 rfl
  clear S138
  have S140 : Sep w (box b6 [.string u7, iv (parX u8), iv (parX u9), .bool false, .bool false, iv 0, iv 0, iv 0, iv 0, iv 0] 57 :: (K14TS b27 b13 b14 b15 b17 b16 b18 b20 b19 b21 b22 b23 b24 b25 b26 b6 la lc A lb ld B ra rc out b4 Pz b3 b2 b1)) w56 := S139.front 13 rfl
  clear S139
  refine J.run 3 K14_112 ((114, .bool (!(numOk u9))) :: (15, iv 2) :: (97, iv 2) :: (96, iv ((A.length - 1 : Nat) : Int)) :: (95, .slice (subA la lc 1 1) (A.length - 1) (lc - 1)) :: (K14ES b27 b6 b5 x lb B ld la A lc i Pz b4 b3 b2 b1)) w56 (by kernel_rfl) ?_
  rcases Bool.eq_false_or_eq_true (numOk u9) with fk31 | fk31
  rotate_left
  ·skip
   refine J.head (.bool true) (congrArg Value.bool (by rw [fk31]; rfl)) ?_
   have hbad := rd_bad hZ (by omega) (by rw [← e_u9]; exact fk31)
   have S270 : Sep w [rowOf Eng.encI lb ld 3 1 B, box b2 [iv 0, iv 0] 40, box b1 [.slice none 0 0] 24] w56 := S140.sub (.cons _ (.cons _ (.cons _ (.cons _ (.cons _ (.cons _ (.cons _ (.cons _ (.cons _ (.cons _ (.cons _ (.cons _ (.cons _ (.cons _ (.cons _ (.cons _ (.cons _ (.cons_cons _ (.cons _ (.cons _ (.cons _ (.cons_cons _ (.cons_cons _ (List.nil_sublist _))))))))))))))))))))))))
   clear S140
   refine J.run 2 K14_210 [(15, iv 2), (9, .slice lb B.length ld), (6, iv i), (3, pt b2), (2, pt b1)] w56 (by kernel_rfl) ?_
   obtain ⟨p32, hp32⟩ := row1_addr (S270.nth 0 rfl) (show 0 < (B).length by first | omega | (simp; omega))
   refine J.drawPlan (fun w_ => Sep w [rowOf Eng.encI lb ld 3 1 B, box b1 [.slice none 0 0] 24] w_) [(0, true), (1, true), (2, true), (3, true), (4, true), (5, true), (6, true), (7, true), (8, true), (9, false), (10, false), (11, true)] S270 Tryd.mixed (by kernel_rfl) (planOK_of (T := [(0, some 115, 0), (0, some 116, 64), (2, some 117, 83076749736557242056487941267521536), (0, some 118, 512), (0, some 119, 32768), (16, some 120, 664613997892457936451903530140172288), (40, some 121, 1661534994731144841129758825350430720), (64, some 122, 2658455991569831745807614120560689152), (132, some 123, 5483065482612777975728204123656421376), (1, none, 41538374868278621028243970633760772), (1023, none, 10633823966279326983230456482242756616), (2047, some 4, 0)]) (by kernel_rfl) (by kernel_rfl)) ?_
   intro w113 S271
   refine PB.mk (S271.erase 1) ?_
   refine PL.take 0 115 (.agg #[.slice none 0 0]) (fun _ _ => by kernel_rfl) ?_
   refine PL.take 1 116 (iv i) (fun _ _ => by kernel_rfl) ?_
   refine PL.take 2 117 (iv (IntKind.wrap .i64 (i + 1))) (fun _ _ => by kernel_rfl) ?_
   refine PL.head (iv (i + 1)) (congrArg (Value.int .i64) (IntWalk.i64_in _ (by omega))) ?_
   refine PL.take 3 118 (.slice lb B.length ld) (fun _ _ => by kernel_rfl) ?_
   refine PL.take 4 119 (iv 2) (fun _ _ => by kernel_rfl) ?_
   refine PL.take 5 120 (iv 3) (fun _ _ => by kernel_rfl) ?_
   refine PL.takeOK 6 (fun w_ S_ => OK.index 121 59 1 lb p32 B.length 3 3 (p32.add 3) (by kernel_rfl) (by kernel_rfl) hp32 (by omega) (by first | omega | (simp; omega)) (by rw [Nat.mul_one])) rfl ?_
   refine PL.takeOK 7 (fun w_ S_ => OK.ldCell 122 3 (p32.add 3) (iv (B.getD 3 0)) (by kernel_rfl) (by kernel_rfl) (row1_cell (g := (Value.int .i64)) S_ 0 rfl hp32 0 3 (by first | omega | (simp; omega)))) rfl ?_
   refine PL.take 8 123 (.agg #[iv (i + 1), iv (B.getD 3 0)]) (fun _ _ => by kernel_rfl) ?_
   refine PL.stBox S271 2 24 0 (.agg #[.slice none 0 0]) [.slice none 0 0] [rowOf Eng.encI lb ld 3 1 B, box b2 [iv 0, iv 0] 40, box b1 [.slice none 0 0] 24] (by kernel_rfl) rfl (by kernel_rfl) (by kernel_rfl) rfl ?_
   intro w114 S272
   refine PB.mk (S272.erase 1) ?_
   refine PL.stBox S272 1 40 0 (.agg #[iv (i + 1), iv (B.getD 3 0)]) [iv (i + 1), iv (B.getD 3 0)] [rowOf Eng.encI lb ld 3 1 B, box b2 [iv (i + 1), iv (B.getD 3 0)] 40, box b1 [.slice none 0 0] 24] (by kernel_rfl) rfl (by kernel_rfl) (by kernel_rfl) rfl ?_
   intro w115 S273
   refine PB.mk (S273.erase 1) ?_
   refine PL.take 11 4 (iv 3) (fun _ _ => by kernel_rfl) ?_
   refine PL.done ?_
   refine J.run 0 (rRest K14_210) [(4, iv 3), (3, pt b2), (2, pt b1)] w115 (by kernel_rfl) ?_
   refine J.ret Tryd.f14 [.agg #[.slice none 0 0], .agg #[iv (i + 1), iv (B.getD 3 0)], iv 3] Tryd.func14 ⟨⟨⟨b1, 0, none⟩, by kernel_rfl, ldV_run (S273.nth 2 rfl) (by kernel_rfl)⟩, ⟨⟨b2, 0, none⟩, by kernel_rfl, ldV_run (S273.nth 1 rfl) (by kernel_rfl)⟩, by kernel_rfl, trivial⟩ ?_
   refine hR _ _ ?_
   rw [show B.getD 3 0 = (L.getD 3 wd0).2 from by rw [hB]; exact snd_at L 3]
   exact bad_post (bad_line hQ h0 (by omega) hx1 hL (by omega) hZl hbad) S273
  refine J.head (.bool false) (congrArg Value.bool (by rw [fk31]; rfl)) ?_
  replace hZ : Z = rdS [3, 4, 1, 1, 1, 1, 1] 0 (L.drop 4) ((x.size : Int) + 1) := rd_ok hZ (by omega) (by rw [← e_u9]; exact fk31)
  refine J.run 8 K14_113 ((97, iv 3) :: (96, iv ((A.length - 1 : Nat) : Int)) :: (95, .slice (subA la lc 1 1) (A.length - 1) (lc - 1)) :: (K14ES b27 b6 b5 x lb B ld la A lc i Pz b4 b3 b2 b1)) w56 (by kernel_rfl) ?_
  refine J.run 5 K14_114 ((98, .bool (decide (3 < ((A.length - 1 : Nat) : Int)))) :: (97, iv 3) :: (96, iv ((A.length - 1 : Nat) : Int)) :: (95, .slice (subA la lc 1 1) (A.length - 1) (lc - 1)) :: (K14ES b27 b6 b5 x lb B ld la A lc i Pz b4 b3 b2 b1)) w56 (by kernel_rfl) ?_
  by_cases fk32 : 3 < ((A.length - 1 : Nat) : Int)
  rotate_left
  ·skip
   refine J.head (.bool false) (congrArg Value.bool (decide_eq_false fk32)) ?_
   have S267 : Sep w [box b2 [iv 0, iv 0] 40, box b1 [.slice none 0 0] 24] w56 := S140.sub (.cons _ (.cons _ (.cons _ (.cons _ (.cons _ (.cons _ (.cons _ (.cons _ (.cons _ (.cons _ (.cons _ (.cons _ (.cons _ (.cons _ (.cons _ (.cons _ (.cons _ (.cons _ (.cons _ (.cons _ (.cons _ (.cons_cons _ (.cons_cons _ (List.nil_sublist _))))))))))))))))))))))))
   clear S140
   refine J.run 8 K14_205 ((127, iv (IntKind.wrap .i64 ((A.length : Int) - 1))) :: (13, .slice (some ⟨b27, 0, none⟩) 10 10) :: (14, iv 0) :: (12, pt b6) :: (11, pt b5) :: (10, iv ((x.size : Int) + 1)) :: (8, .slice la A.length lc) :: (6, iv i) :: (K14E0 i Pz b4 b3 b2 b1)) w56 (by kernel_rfl) ?_
   refine J.head (iv ((A.length : Int) - 1)) (congrArg (Value.int .i64) (IntWalk.i64_in _ (by omega))) ?_
   refine J.run 6 K14_206 ((132, .bool (decide (((A.length : Int) - 1) < 10))) :: (12, pt b6) :: (11, pt b5) :: (10, iv ((x.size : Int) + 1)) :: (8, .slice la A.length lc) :: (6, iv i) :: (K14E0 i Pz b4 b3 b2 b1)) w56 (by kernel_rfl) ?_
   have fk63 : ((A.length : Int) - 1) < 10 := by omega
   refine J.head (.bool true) (congrArg Value.bool (decide_eq_true fk63)) ?_
   refine J.run 6 K14_207 [(135, iv (IntKind.wrap .i64 (i + 1))), (133, .agg #[.slice none 0 0]), (10, iv ((x.size : Int) + 1)), (3, pt b2), (2, pt b1)] w56 (by kernel_rfl) ?_
   refine J.head (iv (i + 1)) (congrArg (Value.int .i64) (IntWalk.i64_in _ (by omega))) ?_
   refine J.run 2 K14_208 [(137, .agg #[iv (i + 1), iv ((x.size : Int) + 1)]), (133, .agg #[.slice none 0 0]), (3, pt b2), (2, pt b1)] w56 (by kernel_rfl) ?_
   refine J.stBox S267 1 24 0 (.agg #[.slice none 0 0]) [.slice none 0 0] [box b2 [iv 0, iv 0] 40, box b1 [.slice none 0 0] 24] (by kernel_rfl) rfl (by kernel_rfl) (by kernel_rfl) rfl ?_
   intro w111 S268
   refine J.stBox S268 0 40 0 (.agg #[iv (i + 1), iv ((x.size : Int) + 1)]) [iv (i + 1), iv ((x.size : Int) + 1)] [box b2 [iv (i + 1), iv ((x.size : Int) + 1)] 40, box b1 [.slice none 0 0] 24] (by kernel_rfl) rfl (by kernel_rfl) (by kernel_rfl) rfl ?_
   intro w112 S269
   refine J.run 2 K14_209 [(4, iv 4), (3, pt b2), (2, pt b1)] w112 (by kernel_rfl) ?_
   refine J.ret Tryd.f14 [.agg #[.slice none 0 0], .agg #[iv (i + 1), iv ((x.size : Int) + 1)], iv 4] Tryd.func14 ⟨⟨⟨b1, 0, none⟩, by kernel_rfl, ldV_run (S269.nth 1 rfl) (by kernel_rfl)⟩, ⟨⟨b2, 0, none⟩, by kernel_rfl, ldV_run (S269.nth 0 rfl) (by kernel_rfl)⟩, by kernel_rfl, trivial⟩ ?_
   refine hR _ _ ?_
   exact bad_post (bad_line hQ h0 (by omega) hx1 hL (by omega) hZl (rd_few hZ (by omega) (by decide))) S269
  refine J.head (.bool true) (congrArg Value.bool (decide_eq_true fk32)) ?_
  refine J.run 7 K14_115 ((99, iv 3) :: (97, iv 3) :: (96, iv ((A.length - 1 : Nat) : Int)) :: (95, .slice (subA la lc 1 1) (A.length - 1) (lc - 1)) :: (K14ES b27 b6 b5 x lb B ld la A lc i Pz b4 b3 b2 b1)) w56 (by kernel_rfl) ?_
  obtain ⟨p15, hp15, hc10⟩ := (ones_drop (row1_ones (S140.nth 16 rfl) _ rfl) lc 1 (by omega) (by omega)).at ByteArray.empty 3 (by omega)
  refine J.ok (OK.index 100 49 1 (subA la lc 1 1) p15 (A.length - 1) 3 3 (p15.add 3) (by kernel_rfl) (by kernel_rfl) hp15 (by omega) (by omega) (by rw [Nat.mul_one])) ?_
  refine J.ok (OK.ldCell 101 9 (p15.add 3) (.string ((A.drop 1).getD 3 ByteArray.empty)) (by kernel_rfl) (by kernel_rfl) hc10) ?_
  obtain ⟨u10, hu10⟩ : ∃ x : ByteArray, x = (A.drop 1).getD 3 ByteArray.empty := ⟨_, rfl⟩
  have e_u10 : u10 = wAt L 4 := by rw [hu10, hA]; exact fst_drop L 3
  have z_u10 : u10.size ≤ 1000000 := by rw [e_u10]; exact hws _
  refine J.head (.string u10) (congrArg Value.string hu10.symm) ?_
  refine J.run 12 K14_116 ((108, iv 3) :: (107, .slice (some ⟨b27, 0, none⟩) 10 10) :: (106, .bool false) :: (16, .string u10) :: (15, iv 3) :: (97, iv 3) :: (96, iv ((A.length - 1 : Nat) : Int)) :: (95, .slice (subA la lc 1 1) (A.length - 1) (lc - 1)) :: (K14ES b27 b6 b5 x lb B ld la A lc i Pz b4 b3 b2 b1)) w56 (by kernel_rfl) ?_
  refine J.ok (OK.index 109 81 1 (some ⟨b27, 0, none⟩) ⟨b27, 0, none⟩ 10 3 3 ⟨b27, 3, none⟩ (by kernel_rfl) (by kernel_rfl) rfl (by omega) (by omega) (by rfl)) ?_
  refine J.ok (OK.ldBox S140 1 110 82 3 (.func (.func 63) #[] #[pt b17, pt b16, pt b18]) (by kernel_rfl) rfl (by kernel_rfl)) ?_
  refine J.run 1 K14_117 ((111, .string u10) :: (110, .func (.func 63) #[] #[pt b17, pt b16, pt b18]) :: (106, .bool false) :: (15, iv 3) :: (97, iv 3) :: (96, iv ((A.length - 1 : Nat) : Int)) :: (95, .slice (subA la lc 1 1) (A.length - 1) (lc - 1)) :: (K14ES b27 b6 b5 x lb B ld la A lc i Pz b4 b3 b2 b1)) w56 (by kernel_rfl) ?_
  have S141 := S140.front 10 rfl
  clear S140
  have S142 := S141.front 12 rfl
  clear S141
  have S143 := S142.front 12 rfl
  clear S142
  refine J.callF 112 63 #[.string u10, pt b17, pt b16, pt b18] hb63 (by kernel_rfl) (choice57_3 b6 b17 b16 b18 (.string u7) (iv (parX u8)) (iv (parX u9)) (.bool false) (.bool false) (iv 0) (iv 0) (iv 0) (iv 0) (iv 0) u10 WMo WIn _ _ _ S143) ?_
  rintro _ w57 ⟨rfl, S144⟩
  clear S143
  have S145 := S144.front 2 rfl
  clear S144
  have S146 := S145.front 12 rfl
  clear S145
  have S147 := S146.front 12 rfl
  clear S146
  have S148 := S147.front 12 rfl
  clear S147
  have S149 := S148.front 12 rfl
  clear S148
  have S150 := S149.front 12 rfl
  clear S149
  have S151 := S150.front 12 rfl
  clear S150
  have S152 := S151.front 12 rfl
  clear S151
  have S153 := S152.front 12 rfl
  clear S152
  have S154 := S153.front 12 rfl
  clear S153
  have S155 : Sep w (box b6 [.string u7, iv (parX u8), iv (parX u9), .bool (eqT u10 WMo), .bool false, iv 0, iv 0, iv 0, iv 0, iv 0] 57 :: (K14TS b27 b13 b14 b15 b17 b16 b18 b20 b19 b21 b22 b23 b24 b25 b26 b6 la lc A lb ld B ra rc out b4 Pz b3 b2 b1)) w57 := S154.front 12 rfl
  clear S154
  refine J.run 3 K14_118 ((114, .bool (!(eqT u10 WMo || eqT u10 WIn))) :: (15, iv 3) :: (97, iv 3) :: (96, iv ((A.length - 1 : Nat) : Int)) :: (95, .slice (subA la lc 1 1) (A.length - 1) (lc - 1)) :: (K14ES b27 b6 b5 x lb B ld la A lc i Pz b4 b3 b2 b1)) w57 (by kernel_rfl) ?_
  rcases Bool.eq_false_or_eq_true (eqT u10 WMo || eqT u10 WIn) with fk33 | fk33
  rotate_left
  ·skip
   refine J.head (.bool true) (congrArg Value.bool (by rw [fk33]; rfl)) ?_
   have hbad := rd_bad hZ (by omega) (by rw [← e_u10]; exact fk33)
   have S263 : Sep w [rowOf Eng.encI lb ld 3 1 B, box b2 [iv 0, iv 0] 40, box b1 [.slice none 0 0] 24] w57 := S155.sub (.cons _ (.cons _ (.cons _ (.cons _ (.cons _ (.cons _ (.cons _ (.cons _ (.cons _ (.cons _ (.cons _ (.cons _ (.cons _ (.cons _ (.cons _ (.cons _ (.cons _ (.cons_cons _ (.cons _ (.cons _ (.cons _ (.cons_cons _ (.cons_cons _ (List.nil_sublist _))))))))))))))))))))))))
   clear S155
   refine J.run 2 K14_204 [(15, iv 3), (9, .slice lb B.length ld), (6, iv i), (3, pt b2), (2, pt b1)] w57 (by kernel_rfl) ?_
   obtain ⟨p31, hp31⟩ := row1_addr (S263.nth 0 rfl) (show 0 < (B).length by first | omega | (simp; omega))
   refine J.drawPlan (fun w_ => Sep w [rowOf Eng.encI lb ld 3 1 B, box b1 [.slice none 0 0] 24] w_) [(0, true), (1, true), (2, true), (3, true), (4, true), (5, true), (6, true), (7, true), (8, true), (9, false), (10, false), (11, true)] S263 Tryd.mixed (by kernel_rfl) (planOK_of (T := [(0, some 115, 0), (0, some 116, 64), (2, some 117, 83076749736557242056487941267521536), (0, some 118, 512), (0, some 119, 32768), (16, some 120, 664613997892457936451903530140172288), (40, some 121, 1661534994731144841129758825350430720), (64, some 122, 2658455991569831745807614120560689152), (132, some 123, 5483065482612777975728204123656421376), (1, none, 41538374868278621028243970633760772), (1023, none, 10633823966279326983230456482242756616), (2047, some 4, 0)]) (by kernel_rfl) (by kernel_rfl)) ?_
   intro w108 S264
   refine PB.mk (S264.erase 1) ?_
   refine PL.take 0 115 (.agg #[.slice none 0 0]) (fun _ _ => by kernel_rfl) ?_
   refine PL.take 1 116 (iv i) (fun _ _ => by kernel_rfl) ?_
   refine PL.take 2 117 (iv (IntKind.wrap .i64 (i + 1))) (fun _ _ => by kernel_rfl) ?_
   refine PL.head (iv (i + 1)) (congrArg (Value.int .i64) (IntWalk.i64_in _ (by omega))) ?_
   refine PL.take 3 118 (.slice lb B.length ld) (fun _ _ => by kernel_rfl) ?_
   refine PL.take 4 119 (iv 3) (fun _ _ => by kernel_rfl) ?_
   refine PL.take 5 120 (iv 4) (fun _ _ => by kernel_rfl) ?_
   refine PL.takeOK 6 (fun w_ S_ => OK.index 121 59 1 lb p31 B.length 4 4 (p31.add 4) (by kernel_rfl) (by kernel_rfl) hp31 (by omega) (by first | omega | (simp; omega)) (by rw [Nat.mul_one])) rfl ?_
   refine PL.takeOK 7 (fun w_ S_ => OK.ldCell 122 3 (p31.add 4) (iv (B.getD 4 0)) (by kernel_rfl) (by kernel_rfl) (row1_cell (g := (Value.int .i64)) S_ 0 rfl hp31 0 4 (by first | omega | (simp; omega)))) rfl ?_
   refine PL.take 8 123 (.agg #[iv (i + 1), iv (B.getD 4 0)]) (fun _ _ => by kernel_rfl) ?_
   refine PL.stBox S264 2 24 0 (.agg #[.slice none 0 0]) [.slice none 0 0] [rowOf Eng.encI lb ld 3 1 B, box b2 [iv 0, iv 0] 40, box b1 [.slice none 0 0] 24] (by kernel_rfl) rfl (by kernel_rfl) (by kernel_rfl) rfl ?_
   intro w109 S265
   refine PB.mk (S265.erase 1) ?_
   refine PL.stBox S265 1 40 0 (.agg #[iv (i + 1), iv (B.getD 4 0)]) [iv (i + 1), iv (B.getD 4 0)] [rowOf Eng.encI lb ld 3 1 B, box b2 [iv (i + 1), iv (B.getD 4 0)] 40, box b1 [.slice none 0 0] 24] (by kernel_rfl) rfl (by kernel_rfl) (by kernel_rfl) rfl ?_
   intro w110 S266
   refine PB.mk (S266.erase 1) ?_
   refine PL.take 11 4 (iv 3) (fun _ _ => by kernel_rfl) ?_
   refine PL.done ?_
   refine J.run 0 (rRest K14_204) [(4, iv 3), (3, pt b2), (2, pt b1)] w110 (by kernel_rfl) ?_
   refine J.ret Tryd.f14 [.agg #[.slice none 0 0], .agg #[iv (i + 1), iv (B.getD 4 0)], iv 3] Tryd.func14 ⟨⟨⟨b1, 0, none⟩, by kernel_rfl, ldV_run (S266.nth 2 rfl) (by kernel_rfl)⟩, ⟨⟨b2, 0, none⟩, by kernel_rfl, ldV_run (S266.nth 1 rfl) (by kernel_rfl)⟩, by kernel_rfl, trivial⟩ ?_
   refine hR _ _ ?_
   rw [show B.getD 4 0 = (L.getD 4 wd0).2 from by rw [hB]; exact snd_at L 4]
   exact bad_post (bad_line hQ h0 (by omega) hx1 hL (by omega) hZl hbad) S266
  refine J.head (.bool false) (congrArg Value.bool (by rw [fk33]; rfl)) ?_
  replace hZ : Z = rdS [4, 1, 1, 1, 1, 1] 0 (L.drop 5) ((x.size : Int) + 1) := rd_ok hZ (by omega) (by rw [← e_u10]; exact fk33)
  refine J.run 8 K14_119 ((97, iv 4) :: (96, iv ((A.length - 1 : Nat) : Int)) :: (95, .slice (subA la lc 1 1) (A.length - 1) (lc - 1)) :: (K14ES b27 b6 b5 x lb B ld la A lc i Pz b4 b3 b2 b1)) w57 (by kernel_rfl) ?_
  refine J.run 5 K14_120 ((98, .bool (decide (4 < ((A.length - 1 : Nat) : Int)))) :: (97, iv 4) :: (96, iv ((A.length - 1 : Nat) : Int)) :: (95, .slice (subA la lc 1 1) (A.length - 1) (lc - 1)) :: (K14ES b27 b6 b5 x lb B ld la A lc i Pz b4 b3 b2 b1)) w57 (by kernel_rfl) ?_
  by_cases fk34 : 4 < ((A.length - 1 : Nat) : Int)
  rotate_left
  ·skip
   refine J.head (.bool false) (congrArg Value.bool (decide_eq_false fk34)) ?_
   have S260 : Sep w [box b2 [iv 0, iv 0] 40, box b1 [.slice none 0 0] 24] w57 := S155.sub (.cons _ (.cons _ (.cons _ (.cons _ (.cons _ (.cons _ (.cons _ (.cons _ (.cons _ (.cons _ (.cons _ (.cons _ (.cons _ (.cons _ (.cons _ (.cons _ (.cons _ (.cons _ (.cons _ (.cons _ (.cons _ (.cons_cons _ (.cons_cons _ (List.nil_sublist _))))))))))))))))))))))))
   clear S155
   refine J.run 8 K14_199 ((127, iv (IntKind.wrap .i64 ((A.length : Int) - 1))) :: (13, .slice (some ⟨b27, 0, none⟩) 10 10) :: (14, iv 0) :: (12, pt b6) :: (11, pt b5) :: (10, iv ((x.size : Int) + 1)) :: (8, .slice la A.length lc) :: (6, iv i) :: (K14E0 i Pz b4 b3 b2 b1)) w57 (by kernel_rfl) ?_
   refine J.head (iv ((A.length : Int) - 1)) (congrArg (Value.int .i64) (IntWalk.i64_in _ (by omega))) ?_
   refine J.run 6 K14_200 ((132, .bool (decide (((A.length : Int) - 1) < 10))) :: (12, pt b6) :: (11, pt b5) :: (10, iv ((x.size : Int) + 1)) :: (8, .slice la A.length lc) :: (6, iv i) :: (K14E0 i Pz b4 b3 b2 b1)) w57 (by kernel_rfl) ?_
   have fk61 : ((A.length : Int) - 1) < 10 := by omega
   refine J.head (.bool true) (congrArg Value.bool (decide_eq_true fk61)) ?_
   refine J.run 6 K14_201 [(135, iv (IntKind.wrap .i64 (i + 1))), (133, .agg #[.slice none 0 0]), (10, iv ((x.size : Int) + 1)), (3, pt b2), (2, pt b1)] w57 (by kernel_rfl) ?_
   refine J.head (iv (i + 1)) (congrArg (Value.int .i64) (IntWalk.i64_in _ (by omega))) ?_
   refine J.run 2 K14_202 [(137, .agg #[iv (i + 1), iv ((x.size : Int) + 1)]), (133, .agg #[.slice none 0 0]), (3, pt b2), (2, pt b1)] w57 (by kernel_rfl) ?_
   refine J.stBox S260 1 24 0 (.agg #[.slice none 0 0]) [.slice none 0 0] [box b2 [iv 0, iv 0] 40, box b1 [.slice none 0 0] 24] (by kernel_rfl) rfl (by kernel_rfl) (by kernel_rfl) rfl ?_
   intro w106 S261
   refine J.stBox S261 0 40 0 (.agg #[iv (i + 1), iv ((x.size : Int) + 1)]) [iv (i + 1), iv ((x.size : Int) + 1)] [box b2 [iv (i + 1), iv ((x.size : Int) + 1)] 40, box b1 [.slice none 0 0] 24] (by kernel_rfl) rfl (by kernel_rfl) (by kernel_rfl) rfl ?_
   intro w107 S262
   refine J.run 2 K14_203 [(4, iv 4), (3, pt b2), (2, pt b1)] w107 (by kernel_rfl) ?_
   refine J.ret Tryd.f14 [.agg #[.slice none 0 0], .agg #[iv (i + 1), iv ((x.size : Int) + 1)], iv 4] Tryd.func14 ⟨⟨⟨b1, 0, none⟩, by kernel_rfl, ldV_run (S262.nth 1 rfl) (by kernel_rfl)⟩, ⟨⟨b2, 0, none⟩, by kernel_rfl, ldV_run (S262.nth 0 rfl) (by kernel_rfl)⟩, by kernel_rfl, trivial⟩ ?_
   refine hR _ _ ?_
   exact bad_post (bad_line hQ h0 (by omega) hx1 hL (by omega) hZl (rd_few hZ (by omega) (by decide))) S262
  refine J.head (.bool true) (congrArg Value.bool (decide_eq_true fk34)) ?_
  refine J.run 7 K14_121 ((99, iv 4) :: (97, iv 4) :: (96, iv ((A.length - 1 : Nat) : Int)) :: (95, .slice (subA la lc 1 1) (A.length - 1) (lc - 1)) :: (K14ES b27 b6 b5 x lb B ld la A lc i Pz b4 b3 b2 b1)) w57 (by kernel_rfl) ?_
  obtain ⟨p16, hp16, hc11⟩ := (ones_drop (row1_ones (S155.nth 16 rfl) _ rfl) lc 1 (by omega) (by omega)).at ByteArray.empty 4 (by omega)
  refine J.ok (OK.index 100 49 1 (subA la lc 1 1) p16 (A.length - 1) 4 4 (p16.add 4) (by kernel_rfl) (by kernel_rfl) hp16 (by omega) (by omega) (by rw [Nat.mul_one])) ?_
  refine J.ok (OK.ldCell 101 9 (p16.add 4) (.string ((A.drop 1).getD 4 ByteArray.empty)) (by kernel_rfl) (by kernel_rfl) hc11) ?_
  obtain ⟨u11, hu11⟩ : ∃ x : ByteArray, x = (A.drop 1).getD 4 ByteArray.empty := ⟨_, rfl⟩
  have e_u11 : u11 = wAt L 5 := by rw [hu11, hA]; exact fst_drop L 4
  have z_u11 : u11.size ≤ 1000000 := by rw [e_u11]; exact hws _
  refine J.head (.string u11) (congrArg Value.string hu11.symm) ?_
  refine J.run 12 K14_122 ((108, iv 4) :: (107, .slice (some ⟨b27, 0, none⟩) 10 10) :: (106, .bool false) :: (16, .string u11) :: (15, iv 4) :: (97, iv 4) :: (96, iv ((A.length - 1 : Nat) : Int)) :: (95, .slice (subA la lc 1 1) (A.length - 1) (lc - 1)) :: (K14ES b27 b6 b5 x lb B ld la A lc i Pz b4 b3 b2 b1)) w57 (by kernel_rfl) ?_
  refine J.ok (OK.index 109 81 1 (some ⟨b27, 0, none⟩) ⟨b27, 0, none⟩ 10 4 4 ⟨b27, 4, none⟩ (by kernel_rfl) (by kernel_rfl) rfl (by omega) (by omega) (by rfl)) ?_
  refine J.ok (OK.ldBox S155 1 110 82 4 (.func (.func 63) #[] #[pt b20, pt b19, pt b21]) (by kernel_rfl) rfl (by kernel_rfl)) ?_
  refine J.run 1 K14_123 ((111, .string u11) :: (110, .func (.func 63) #[] #[pt b20, pt b19, pt b21]) :: (106, .bool false) :: (15, iv 4) :: (97, iv 4) :: (96, iv ((A.length - 1 : Nat) : Int)) :: (95, .slice (subA la lc 1 1) (A.length - 1) (lc - 1)) :: (K14ES b27 b6 b5 x lb B ld la A lc i Pz b4 b3 b2 b1)) w57 (by kernel_rfl) ?_
  have S156 := S155.front 7 rfl
  clear S155
  have S157 := S156.front 9 rfl
  clear S156
  have S158 := S157.front 9 rfl
  clear S157
  refine J.callF 112 63 #[.string u11, pt b20, pt b19, pt b21] hb63 (by kernel_rfl) (choice57_4 b6 b20 b19 b21 (.string u7) (iv (parX u8)) (iv (parX u9)) (.bool (eqT u10 WMo)) (.bool false) (iv 0) (iv 0) (iv 0) (iv 0) (iv 0) u11 WSi WUn _ _ _ S158) ?_
  rintro _ w58 ⟨rfl, S159⟩
  clear S158
  have S160 := S159.front 2 rfl
  clear S159
  have S161 := S160.front 9 rfl
  clear S160
  have S162 := S161.front 9 rfl
  clear S161
  have S163 := S162.front 9 rfl
  clear S162
  have S164 := S163.front 9 rfl
  clear S163
  have S165 := S164.front 9 rfl
  clear S164
  have S166 := S165.front 9 rfl
  clear S165
  have S167 : Sep w (box b6 [.string u7, iv (parX u8), iv (parX u9), .bool (eqT u10 WMo), .bool (eqT u11 WSi), iv 0, iv 0, iv 0, iv 0, iv 0] 57 :: (K14TS b27 b13 b14 b15 b17 b16 b18 b20 b19 b21 b22 b23 b24 b25 b26 b6 la lc A lb ld B ra rc out b4 Pz b3 b2 b1)) w58 := S166.front 9 rfl
  clear S166
  refine J.run 3 K14_124 ((114, .bool (!(eqT u11 WSi || eqT u11 WUn))) :: (15, iv 4) :: (97, iv 4) :: (96, iv ((A.length - 1 : Nat) : Int)) :: (95, .slice (subA la lc 1 1) (A.length - 1) (lc - 1)) :: (K14ES b27 b6 b5 x lb B ld la A lc i Pz b4 b3 b2 b1)) w58 (by kernel_rfl) ?_
  rcases Bool.eq_false_or_eq_true (eqT u11 WSi || eqT u11 WUn) with fk35 | fk35
  rotate_left
  ·skip
   refine J.head (.bool true) (congrArg Value.bool (by rw [fk35]; rfl)) ?_
   have hbad := rd_bad hZ (by omega) (by rw [← e_u11]; exact fk35)
   have S256 : Sep w [rowOf Eng.encI lb ld 3 1 B, box b2 [iv 0, iv 0] 40, box b1 [.slice none 0 0] 24] w58 := S167.sub (.cons _ (.cons _ (.cons _ (.cons _ (.cons _ (.cons _ (.cons _ (.cons _ (.cons _ (.cons _ (.cons _ (.cons _ (.cons _ (.cons _ (.cons _ (.cons _ (.cons _ (.cons_cons _ (.cons _ (.cons _ (.cons _ (.cons_cons _ (.cons_cons _ (List.nil_sublist _))))))))))))))))))))))))
   clear S167
   refine J.run 2 K14_198 [(15, iv 4), (9, .slice lb B.length ld), (6, iv i), (3, pt b2), (2, pt b1)] w58 (by kernel_rfl) ?_
   obtain ⟨p30, hp30⟩ := row1_addr (S256.nth 0 rfl) (show 0 < (B).length by first | omega | (simp; omega))
   refine J.drawPlan (fun w_ => Sep w [rowOf Eng.encI lb ld 3 1 B, box b1 [.slice none 0 0] 24] w_) [(0, true), (1, true), (2, true), (3, true), (4, true), (5, true), (6, true), (7, true), (8, true), (9, false), (10, false), (11, true)] S256 Tryd.mixed (by kernel_rfl) (planOK_of (T := [(0, some 115, 0), (0, some 116, 64), (2, some 117, 83076749736557242056487941267521536), (0, some 118, 512), (0, some 119, 32768), (16, some 120, 664613997892457936451903530140172288), (40, some 121, 1661534994731144841129758825350430720), (64, some 122, 2658455991569831745807614120560689152), (132, some 123, 5483065482612777975728204123656421376), (1, none, 41538374868278621028243970633760772), (1023, none, 10633823966279326983230456482242756616), (2047, some 4, 0)]) (by kernel_rfl) (by kernel_rfl)) ?_
   intro w103 S257
   refine PB.mk (S257.erase 1) ?_
   refine PL.take 0 115 (.agg #[.slice none 0 0]) (fun _ _ => by kernel_rfl) ?_
   refine PL.take 1 116 (iv i) (fun _ _ => by kernel_rfl) ?_
   refine PL.take 2 117 (iv (IntKind.wrap .i64 (i + 1))) (fun _ _ => by kernel_rfl) ?_
   refine PL.head (iv (i + 1)) (congrArg (Value.int .i64) (IntWalk.i64_in _ (by omega))) ?_
   refine PL.take 3 118 (.slice lb B.length ld) (fun _ _ => by kernel_rfl) ?_
   refine PL.take 4 119 (iv 4) (fun _ _ => by kernel_rfl) ?_
   refine PL.take 5 120 (iv 5) (fun _ _ => by kernel_rfl) ?_
   refine PL.takeOK 6 (fun w_ S_ => OK.index 121 59 1 lb p30 B.length 5 5 (p30.add 5) (by kernel_rfl) (by kernel_rfl) hp30 (by omega) (by first | omega | (simp; omega)) (by rw [Nat.mul_one])) rfl ?_
   refine PL.takeOK 7 (fun w_ S_ => OK.ldCell 122 3 (p30.add 5) (iv (B.getD 5 0)) (by kernel_rfl) (by kernel_rfl) (row1_cell (g := (Value.int .i64)) S_ 0 rfl hp30 0 5 (by first | omega | (simp; omega)))) rfl ?_
   refine PL.take 8 123 (.agg #[iv (i + 1), iv (B.getD 5 0)]) (fun _ _ => by kernel_rfl) ?_
   refine PL.stBox S257 2 24 0 (.agg #[.slice none 0 0]) [.slice none 0 0] [rowOf Eng.encI lb ld 3 1 B, box b2 [iv 0, iv 0] 40, box b1 [.slice none 0 0] 24] (by kernel_rfl) rfl (by kernel_rfl) (by kernel_rfl) rfl ?_
   intro w104 S258
   refine PB.mk (S258.erase 1) ?_
   refine PL.stBox S258 1 40 0 (.agg #[iv (i + 1), iv (B.getD 5 0)]) [iv (i + 1), iv (B.getD 5 0)] [rowOf Eng.encI lb ld 3 1 B, box b2 [iv (i + 1), iv (B.getD 5 0)] 40, box b1 [.slice none 0 0] 24] (by kernel_rfl) rfl (by kernel_rfl) (by kernel_rfl) rfl ?_
   intro w105 S259
   refine PB.mk (S259.erase 1) ?_
   refine PL.take 11 4 (iv 3) (fun _ _ => by kernel_rfl) ?_
   refine PL.done ?_
   refine J.run 0 (rRest K14_198) [(4, iv 3), (3, pt b2), (2, pt b1)] w105 (by kernel_rfl) ?_
   refine J.ret Tryd.f14 [.agg #[.slice none 0 0], .agg #[iv (i + 1), iv (B.getD 5 0)], iv 3] Tryd.func14 ⟨⟨⟨b1, 0, none⟩, by kernel_rfl, ldV_run (S259.nth 2 rfl) (by kernel_rfl)⟩, ⟨⟨b2, 0, none⟩, by kernel_rfl, ldV_run (S259.nth 1 rfl) (by kernel_rfl)⟩, by kernel_rfl, trivial⟩ ?_
   refine hR _ _ ?_
   rw [show B.getD 5 0 = (L.getD 5 wd0).2 from by rw [hB]; exact snd_at L 5]
   exact bad_post (bad_line hQ h0 (by omega) hx1 hL (by omega) hZl hbad) S259
  refine J.head (.bool false) (congrArg Value.bool (by rw [fk35]; rfl)) ?_
  replace hZ : Z = rdS [1, 1, 1, 1, 1] 0 (L.drop 6) ((x.size : Int) + 1) := rd_ok hZ (by omega) (by rw [← e_u11]; exact fk35)
  refine J.run 8 K14_125 ((97, iv 5) :: (96, iv ((A.length - 1 : Nat) : Int)) :: (95, .slice (subA la lc 1 1) (A.length - 1) (lc - 1)) :: (K14ES b27 b6 b5 x lb B ld la A lc i Pz b4 b3 b2 b1)) w58 (by kernel_rfl) ?_
  refine J.run 5 K14_126 ((98, .bool (decide (5 < ((A.length - 1 : Nat) : Int)))) :: (97, iv 5) :: (96, iv ((A.length - 1 : Nat) : Int)) :: (95, .slice (subA la lc 1 1) (A.length - 1) (lc - 1)) :: (K14ES b27 b6 b5 x lb B ld la A lc i Pz b4 b3 b2 b1)) w58 (by kernel_rfl) ?_
  by_cases fk36 : 5 < ((A.length - 1 : Nat) : Int)
  rotate_left
  ·skip
   refine J.head (.bool false) (congrArg Value.bool (decide_eq_false fk36)) ?_
   have S253 : Sep w [box b2 [iv 0, iv 0] 40, box b1 [.slice none 0 0] 24] w58 := S167.sub (.cons _ (.cons _ (.cons _ (.cons _ (.cons _ (.cons _ (.cons _ (.cons _ (.cons _ (.cons _ (.cons _ (.cons _ (.cons _ (.cons _ (.cons _ (.cons _ (.cons _ (.cons _ (.cons _ (.cons _ (.cons _ (.cons_cons _ (.cons_cons _ (List.nil_sublist _))))))))))))))))))))))))
   clear S167
   refine J.run 8 K14_193 ((127, iv (IntKind.wrap .i64 ((A.length : Int) - 1))) :: (13, .slice (some ⟨b27, 0, none⟩) 10 10) :: (14, iv 0) :: (12, pt b6) :: (11, pt b5) :: (10, iv ((x.size : Int) + 1)) :: (8, .slice la A.length lc) :: (6, iv i) :: (K14E0 i Pz b4 b3 b2 b1)) w58 (by kernel_rfl) ?_
   refine J.head (iv ((A.length : Int) - 1)) (congrArg (Value.int .i64) (IntWalk.i64_in _ (by omega))) ?_
   refine J.run 6 K14_194 ((132, .bool (decide (((A.length : Int) - 1) < 10))) :: (12, pt b6) :: (11, pt b5) :: (10, iv ((x.size : Int) + 1)) :: (8, .slice la A.length lc) :: (6, iv i) :: (K14E0 i Pz b4 b3 b2 b1)) w58 (by kernel_rfl) ?_
   have fk59 : ((A.length : Int) - 1) < 10 := by omega
   refine J.head (.bool true) (congrArg Value.bool (decide_eq_true fk59)) ?_
   refine J.run 6 K14_195 [(135, iv (IntKind.wrap .i64 (i + 1))), (133, .agg #[.slice none 0 0]), (10, iv ((x.size : Int) + 1)), (3, pt b2), (2, pt b1)] w58 (by kernel_rfl) ?_
   refine J.head (iv (i + 1)) (congrArg (Value.int .i64) (IntWalk.i64_in _ (by omega))) ?_
   refine J.run 2 K14_196 [(137, .agg #[iv (i + 1), iv ((x.size : Int) + 1)]), (133, .agg #[.slice none 0 0]), (3, pt b2), (2, pt b1)] w58 (by kernel_rfl) ?_
   refine J.stBox S253 1 24 0 (.agg #[.slice none 0 0]) [.slice none 0 0] [box b2 [iv 0, iv 0] 40, box b1 [.slice none 0 0] 24] (by kernel_rfl) rfl (by kernel_rfl) (by kernel_rfl) rfl ?_
   intro w101 S254
   refine J.stBox S254 0 40 0 (.agg #[iv (i + 1), iv ((x.size : Int) + 1)]) [iv (i + 1), iv ((x.size : Int) + 1)] [box b2 [iv (i + 1), iv ((x.size : Int) + 1)] 40, box b1 [.slice none 0 0] 24] (by kernel_rfl) rfl (by kernel_rfl) (by kernel_rfl) rfl ?_
   intro w102 S255
   refine J.run 2 K14_197 [(4, iv 4), (3, pt b2), (2, pt b1)] w102 (by kernel_rfl) ?_
   refine J.ret Tryd.f14 [.agg #[.slice none 0 0], .agg #[iv (i + 1), iv ((x.size : Int) + 1)], iv 4] Tryd.func14 ⟨⟨⟨b1, 0, none⟩, by kernel_rfl, ldV_run (S255.nth 1 rfl) (by kernel_rfl)⟩, ⟨⟨b2, 0, none⟩, by kernel_rfl, ldV_run (S255.nth 0 rfl) (by kernel_rfl)⟩, by kernel_rfl, trivial⟩ ?_
   refine hR _ _ ?_
   exact bad_post (bad_line hQ h0 (by omega) hx1 hL (by omega) hZl (rd_few hZ (by omega) (by decide))) S255
  refine J.head (.bool true) (congrArg Value.bool (decide_eq_true fk36)) ?_
  refine J.run 7 K14_127 ((99, iv 5) :: (97, iv 5) :: (96, iv ((A.length - 1 : Nat) : Int)) :: (95, .slice (subA la lc 1 1) (A.length - 1) (lc - 1)) :: (K14ES b27 b6 b5 x lb B ld la A lc i Pz b4 b3 b2 b1)) w58 (by kernel_rfl) ?_
  obtain ⟨p17, hp17, hc12⟩ := (ones_drop (row1_ones (S167.nth 16 rfl) _ rfl) lc 1 (by omega) (by omega)).at ByteArray.empty 5 (by omega)
  refine J.ok (OK.index 100 49 1 (subA la lc 1 1) p17 (A.length - 1) 5 5 (p17.add 5) (by kernel_rfl) (by kernel_rfl) hp17 (by omega) (by omega) (by rw [Nat.mul_one])) ?_
  refine J.ok (OK.ldCell 101 9 (p17.add 5) (.string ((A.drop 1).getD 5 ByteArray.empty)) (by kernel_rfl) (by kernel_rfl) hc12) ?_
  obtain ⟨u12, hu12⟩ : ∃ x : ByteArray, x = (A.drop 1).getD 5 ByteArray.empty := ⟨_, rfl⟩
  have e_u12 : u12 = wAt L 6 := by rw [hu12, hA]; exact fst_drop L 5
  have z_u12 : u12.size ≤ 1000000 := by rw [e_u12]; exact hws _
  refine J.head (.string u12) (congrArg Value.string hu12.symm) ?_
  refine J.run 12 K14_128 ((108, iv 5) :: (107, .slice (some ⟨b27, 0, none⟩) 10 10) :: (106, .bool false) :: (16, .string u12) :: (15, iv 5) :: (97, iv 5) :: (96, iv ((A.length - 1 : Nat) : Int)) :: (95, .slice (subA la lc 1 1) (A.length - 1) (lc - 1)) :: (K14ES b27 b6 b5 x lb B ld la A lc i Pz b4 b3 b2 b1)) w58 (by kernel_rfl) ?_
  refine J.ok (OK.index 109 81 1 (some ⟨b27, 0, none⟩) ⟨b27, 0, none⟩ 10 5 5 ⟨b27, 5, none⟩ (by kernel_rfl) (by kernel_rfl) rfl (by omega) (by omega) (by rfl)) ?_
  refine J.ok (OK.ldBox S167 1 110 82 5 (.func (.func 60) #[] #[pt b22]) (by kernel_rfl) rfl (by kernel_rfl)) ?_
  refine J.run 1 K14_129 ((111, .string u12) :: (110, .func (.func 60) #[] #[pt b22]) :: (106, .bool false) :: (15, iv 5) :: (97, iv 5) :: (96, iv ((A.length - 1 : Nat) : Int)) :: (95, .slice (subA la lc 1 1) (A.length - 1) (lc - 1)) :: (K14ES b27 b6 b5 x lb B ld la A lc i Pz b4 b3 b2 b1)) w58 (by kernel_rfl) ?_
  have S168 := S167.front 6 rfl
  clear S167
  refine J.callF 112 60 #[.string u12, pt b22] hb60 (by kernel_rfl) (number57_5 b6 b22 (.string u7) (iv (parX u8)) (iv (parX u9)) (.bool (eqT u10 WMo)) (.bool (eqT u11 WSi)) (iv 0) (iv 0) (iv 0) (iv 0) (iv 0) u12 _ _ _ S168 (by first | omega | exact hws _) hW) ?_
  rintro _ w59 ⟨rfl, S169⟩
  clear S168
  have S170 := S169.front 6 rfl
  clear S169
  have S171 := S170.front 6 rfl
  clear S170
  have S172 := S171.front 6 rfl
  clear S171
  have S173 := S172.front 6 rfl
  clear S172
  have S174 := S173.front 6 rfl
  clear S173
  have S175 : Sep w (box b6 [.string u7, iv (parX u8), iv (parX u9), .bool (eqT u10 WMo), .bool (eqT u11 WSi), iv (parX u12), iv 0, iv 0, iv 0, iv 0] 57 :: (K14TS b27 b13 b14 b15 b17 b16 b18 b20 b19 b21 b22 b23 b24 b25 b26 b6 la lc A lb ld B ra rc out b4 Pz b3 b2 b1)) w59 := S174.front 6 rfl
  clear S174
  refine J.run 3 K14_130 ((114, .bool (!(numOk u12))) :: (15, iv 5) :: (97, iv 5) :: (96, iv ((A.length - 1 : Nat) : Int)) :: (95, .slice (subA la lc 1 1) (A.length - 1) (lc - 1)) :: (K14ES b27 b6 b5 x lb B ld la A lc i Pz b4 b3 b2 b1)) w59 (by kernel_rfl) ?_
  rcases Bool.eq_false_or_eq_true (numOk u12) with fk37 | fk37
  rotate_left
  ·skip
   refine J.head (.bool true) (congrArg Value.bool (by rw [fk37]; rfl)) ?_
   have hbad := rd_bad hZ (by omega) (by rw [← e_u12]; exact fk37)
   have S249 : Sep w [rowOf Eng.encI lb ld 3 1 B, box b2 [iv 0, iv 0] 40, box b1 [.slice none 0 0] 24] w59 := S175.sub (.cons _ (.cons _ (.cons _ (.cons _ (.cons _ (.cons _ (.cons _ (.cons _ (.cons _ (.cons _ (.cons _ (.cons _ (.cons _ (.cons _ (.cons _ (.cons _ (.cons _ (.cons_cons _ (.cons _ (.cons _ (.cons _ (.cons_cons _ (.cons_cons _ (List.nil_sublist _))))))))))))))))))))))))
   clear S175
   refine J.run 2 K14_192 [(15, iv 5), (9, .slice lb B.length ld), (6, iv i), (3, pt b2), (2, pt b1)] w59 (by kernel_rfl) ?_
   obtain ⟨p29, hp29⟩ := row1_addr (S249.nth 0 rfl) (show 0 < (B).length by first | omega | (simp; omega))
   refine J.drawPlan (fun w_ => Sep w [rowOf Eng.encI lb ld 3 1 B, box b1 [.slice none 0 0] 24] w_) [(0, true), (1, true), (2, true), (3, true), (4, true), (5, true), (6, true), (7, true), (8, true), (9, false), (10, false), (11, true)] S249 Tryd.mixed (by kernel_rfl) (planOK_of (T := [(0, some 115, 0), (0, some 116, 64), (2, some 117, 83076749736557242056487941267521536), (0, some 118, 512), (0, some 119, 32768), (16, some 120, 664613997892457936451903530140172288), (40, some 121, 1661534994731144841129758825350430720), (64, some 122, 2658455991569831745807614120560689152), (132, some 123, 5483065482612777975728204123656421376), (1, none, 41538374868278621028243970633760772), (1023, none, 10633823966279326983230456482242756616), (2047, some 4, 0)]) (by kernel_rfl) (by kernel_rfl)) ?_
   intro w98 S250
   refine PB.mk (S250.erase 1) ?_
   refine PL.take 0 115 (.agg #[.slice none 0 0]) (fun _ _ => by kernel_rfl) ?_
   refine PL.take 1 116 (iv i) (fun _ _ => by kernel_rfl) ?_
   refine PL.take 2 117 (iv (IntKind.wrap .i64 (i + 1))) (fun _ _ => by kernel_rfl) ?_
   refine PL.head (iv (i + 1)) (congrArg (Value.int .i64) (IntWalk.i64_in _ (by omega))) ?_
   refine PL.take 3 118 (.slice lb B.length ld) (fun _ _ => by kernel_rfl) ?_
   refine PL.take 4 119 (iv 5) (fun _ _ => by kernel_rfl) ?_
   refine PL.take 5 120 (iv 6) (fun _ _ => by kernel_rfl) ?_
   refine PL.takeOK 6 (fun w_ S_ => OK.index 121 59 1 lb p29 B.length 6 6 (p29.add 6) (by kernel_rfl) (by kernel_rfl) hp29 (by omega) (by first | omega | (simp; omega)) (by rw [Nat.mul_one])) rfl ?_
   refine PL.takeOK 7 (fun w_ S_ => OK.ldCell 122 3 (p29.add 6) (iv (B.getD 6 0)) (by kernel_rfl) (by kernel_rfl) (row1_cell (g := (Value.int .i64)) S_ 0 rfl hp29 0 6 (by first | omega | (simp; omega)))) rfl ?_
   refine PL.take 8 123 (.agg #[iv (i + 1), iv (B.getD 6 0)]) (fun _ _ => by kernel_rfl) ?_
   refine PL.stBox S250 2 24 0 (.agg #[.slice none 0 0]) [.slice none 0 0] [rowOf Eng.encI lb ld 3 1 B, box b2 [iv 0, iv 0] 40, box b1 [.slice none 0 0] 24] (by kernel_rfl) rfl (by kernel_rfl) (by kernel_rfl) rfl ?_
   intro w99 S251
   refine PB.mk (S251.erase 1) ?_
   refine PL.stBox S251 1 40 0 (.agg #[iv (i + 1), iv (B.getD 6 0)]) [iv (i + 1), iv (B.getD 6 0)] [rowOf Eng.encI lb ld 3 1 B, box b2 [iv (i + 1), iv (B.getD 6 0)] 40, box b1 [.slice none 0 0] 24] (by kernel_rfl) rfl (by kernel_rfl) (by kernel_rfl) rfl ?_
   intro w100 S252
   refine PB.mk (S252.erase 1) ?_
   refine PL.take 11 4 (iv 3) (fun _ _ => by kernel_rfl) ?_
   refine PL.done ?_
   refine J.run 0 (rRest K14_192) [(4, iv 3), (3, pt b2), (2, pt b1)] w100 (by kernel_rfl) ?_
   refine J.ret Tryd.f14 [.agg #[.slice none 0 0], .agg #[iv (i + 1), iv (B.getD 6 0)], iv 3] Tryd.func14 ⟨⟨⟨b1, 0, none⟩, by kernel_rfl, ldV_run (S252.nth 2 rfl) (by kernel_rfl)⟩, ⟨⟨b2, 0, none⟩, by kernel_rfl, ldV_run (S252.nth 1 rfl) (by kernel_rfl)⟩, by kernel_rfl, trivial⟩ ?_
   refine hR _ _ ?_
   rw [show B.getD 6 0 = (L.getD 6 wd0).2 from by rw [hB]; exact snd_at L 6]
   exact bad_post (bad_line hQ h0 (by omega) hx1 hL (by omega) hZl hbad) S252
  refine J.head (.bool false) (congrArg Value.bool (by rw [fk37]; rfl)) ?_
  replace hZ : Z = rdS [1, 1, 1, 1] 0 (L.drop 7) ((x.size : Int) + 1) := rd_ok hZ (by omega) (by rw [← e_u12]; exact fk37)
  refine J.run 8 K14_131 ((97, iv 6) :: (96, iv ((A.length - 1 : Nat) : Int)) :: (95, .slice (subA la lc 1 1) (A.length - 1) (lc - 1)) :: (K14ES b27 b6 b5 x lb B ld la A lc i Pz b4 b3 b2 b1)) w59 (by kernel_rfl) ?_
  refine J.run 5 K14_132 ((98, .bool (decide (6 < ((A.length - 1 : Nat) : Int)))) :: (97, iv 6) :: (96, iv ((A.length - 1 : Nat) : Int)) :: (95, .slice (subA la lc 1 1) (A.length - 1) (lc - 1)) :: (K14ES b27 b6 b5 x lb B ld la A lc i Pz b4 b3 b2 b1)) w59 (by kernel_rfl) ?_
  by_cases fk38 : 6 < ((A.length - 1 : Nat) : Int)
  rotate_left
  ·skip
   refine J.head (.bool false) (congrArg Value.bool (decide_eq_false fk38)) ?_
   have S246 : Sep w [box b2 [iv 0, iv 0] 40, box b1 [.slice none 0 0] 24] w59 := S175.sub (.cons _ (.cons _ (.cons _ (.cons _ (.cons _ (.cons _ (.cons _ (.cons _ (.cons _ (.cons _ (.cons _ (.cons _ (.cons _ (.cons _ (.cons _ (.cons _ (.cons _ (.cons _ (.cons _ (.cons _ (.cons _ (.cons_cons _ (.cons_cons _ (List.nil_sublist _))))))))))))))))))))))))
   clear S175
   refine J.run 8 K14_187 ((127, iv (IntKind.wrap .i64 ((A.length : Int) - 1))) :: (13, .slice (some ⟨b27, 0, none⟩) 10 10) :: (14, iv 0) :: (12, pt b6) :: (11, pt b5) :: (10, iv ((x.size : Int) + 1)) :: (8, .slice la A.length lc) :: (6, iv i) :: (K14E0 i Pz b4 b3 b2 b1)) w59 (by kernel_rfl) ?_
   refine J.head (iv ((A.length : Int) - 1)) (congrArg (Value.int .i64) (IntWalk.i64_in _ (by omega))) ?_
   refine J.run 6 K14_188 ((132, .bool (decide (((A.length : Int) - 1) < 10))) :: (12, pt b6) :: (11, pt b5) :: (10, iv ((x.size : Int) + 1)) :: (8, .slice la A.length lc) :: (6, iv i) :: (K14E0 i Pz b4 b3 b2 b1)) w59 (by kernel_rfl) ?_
   have fk57 : ((A.length : Int) - 1) < 10 := by omega
   refine J.head (.bool true) (congrArg Value.bool (decide_eq_true fk57)) ?_
   refine J.run 6 K14_189 [(135, iv (IntKind.wrap .i64 (i + 1))), (133, .agg #[.slice none 0 0]), (10, iv ((x.size : Int) + 1)), (3, pt b2), (2, pt b1)] w59 (by kernel_rfl) ?_
   refine J.head (iv (i + 1)) (congrArg (Value.int .i64) (IntWalk.i64_in _ (by omega))) ?_
   refine J.run 2 K14_190 [(137, .agg #[iv (i + 1), iv ((x.size : Int) + 1)]), (133, .agg #[.slice none 0 0]), (3, pt b2), (2, pt b1)] w59 (by kernel_rfl) ?_
   refine J.stBox S246 1 24 0 (.agg #[.slice none 0 0]) [.slice none 0 0] [box b2 [iv 0, iv 0] 40, box b1 [.slice none 0 0] 24] (by kernel_rfl) rfl (by kernel_rfl) (by kernel_rfl) rfl ?_
   intro w96 S247
   refine J.stBox S247 0 40 0 (.agg #[iv (i + 1), iv ((x.size : Int) + 1)]) [iv (i + 1), iv ((x.size : Int) + 1)] [box b2 [iv (i + 1), iv ((x.size : Int) + 1)] 40, box b1 [.slice none 0 0] 24] (by kernel_rfl) rfl (by kernel_rfl) (by kernel_rfl) rfl ?_
   intro w97 S248
   refine J.run 2 K14_191 [(4, iv 4), (3, pt b2), (2, pt b1)] w97 (by kernel_rfl) ?_
   refine J.ret Tryd.f14 [.agg #[.slice none 0 0], .agg #[iv (i + 1), iv ((x.size : Int) + 1)], iv 4] Tryd.func14 ⟨⟨⟨b1, 0, none⟩, by kernel_rfl, ldV_run (S248.nth 1 rfl) (by kernel_rfl)⟩, ⟨⟨b2, 0, none⟩, by kernel_rfl, ldV_run (S248.nth 0 rfl) (by kernel_rfl)⟩, by kernel_rfl, trivial⟩ ?_
   refine hR _ _ ?_
   exact bad_post (bad_line hQ h0 (by omega) hx1 hL (by omega) hZl (rd_few hZ (by omega) (by decide))) S248
  refine J.head (.bool true) (congrArg Value.bool (decide_eq_true fk38)) ?_
  refine J.run 7 K14_133 ((99, iv 6) :: (97, iv 6) :: (96, iv ((A.length - 1 : Nat) : Int)) :: (95, .slice (subA la lc 1 1) (A.length - 1) (lc - 1)) :: (K14ES b27 b6 b5 x lb B ld la A lc i Pz b4 b3 b2 b1)) w59 (by kernel_rfl) ?_
  obtain ⟨p18, hp18, hc13⟩ := (ones_drop (row1_ones (S175.nth 16 rfl) _ rfl) lc 1 (by omega) (by omega)).at ByteArray.empty 6 (by omega)
  refine J.ok (OK.index 100 49 1 (subA la lc 1 1) p18 (A.length - 1) 6 6 (p18.add 6) (by kernel_rfl) (by kernel_rfl) hp18 (by omega) (by omega) (by rw [Nat.mul_one])) ?_
  refine J.ok (OK.ldCell 101 9 (p18.add 6) (.string ((A.drop 1).getD 6 ByteArray.empty)) (by kernel_rfl) (by kernel_rfl) hc13) ?_
  obtain ⟨u13, hu13⟩ : ∃ x : ByteArray, x = (A.drop 1).getD 6 ByteArray.empty := ⟨_, rfl⟩
  have e_u13 : u13 = wAt L 7 := by rw [hu13, hA]; exact fst_drop L 6
  have z_u13 : u13.size ≤ 1000000 := by rw [e_u13]; exact hws _
  refine J.head (.string u13) (congrArg Value.string hu13.symm) ?_
  refine J.run 12 K14_134 ((108, iv 6) :: (107, .slice (some ⟨b27, 0, none⟩) 10 10) :: (106, .bool false) :: (16, .string u13) :: (15, iv 6) :: (97, iv 6) :: (96, iv ((A.length - 1 : Nat) : Int)) :: (95, .slice (subA la lc 1 1) (A.length - 1) (lc - 1)) :: (K14ES b27 b6 b5 x lb B ld la A lc i Pz b4 b3 b2 b1)) w59 (by kernel_rfl) ?_
  refine J.ok (OK.index 109 81 1 (some ⟨b27, 0, none⟩) ⟨b27, 0, none⟩ 10 6 6 ⟨b27, 6, none⟩ (by kernel_rfl) (by kernel_rfl) rfl (by omega) (by omega) (by rfl)) ?_
  refine J.ok (OK.ldBox S175 1 110 82 6 (.func (.func 60) #[] #[pt b23]) (by kernel_rfl) rfl (by kernel_rfl)) ?_
  refine J.run 1 K14_135 ((111, .string u13) :: (110, .func (.func 60) #[] #[pt b23]) :: (106, .bool false) :: (15, iv 6) :: (97, iv 6) :: (96, iv ((A.length - 1 : Nat) : Int)) :: (95, .slice (subA la lc 1 1) (A.length - 1) (lc - 1)) :: (K14ES b27 b6 b5 x lb B ld la A lc i Pz b4 b3 b2 b1)) w59 (by kernel_rfl) ?_
  have S176 := S175.front 5 rfl
  clear S175
  refine J.callF 112 60 #[.string u13, pt b23] hb60 (by kernel_rfl) (number57_6 b6 b23 (.string u7) (iv (parX u8)) (iv (parX u9)) (.bool (eqT u10 WMo)) (.bool (eqT u11 WSi)) (iv (parX u12)) (iv 0) (iv 0) (iv 0) (iv 0) u13 _ _ _ S176 (by first | omega | exact hws _) hW) ?_
  rintro _ w60 ⟨rfl, S177⟩
  clear S176
  have S178 := S177.front 5 rfl
  clear S177
  have S179 := S178.front 5 rfl
  clear S178
  have S180 := S179.front 5 rfl
  clear S179
  have S181 := S180.front 5 rfl
  clear S180
  have S182 : Sep w (box b6 [.string u7, iv (parX u8), iv (parX u9), .bool (eqT u10 WMo), .bool (eqT u11 WSi), iv (parX u12), iv (parX u13), iv 0, iv 0, iv 0] 57 :: (K14TS b27 b13 b14 b15 b17 b16 b18 b20 b19 b21 b22 b23 b24 b25 b26 b6 la lc A lb ld B ra rc out b4 Pz b3 b2 b1)) w60 := S181.front 5 rfl
  clear S181
  refine J.run 3 K14_136 ((114, .bool (!(numOk u13))) :: (15, iv 6) :: (97, iv 6) :: (96, iv ((A.length - 1 : Nat) : Int)) :: (95, .slice (subA la lc 1 1) (A.length - 1) (lc - 1)) :: (K14ES b27 b6 b5 x lb B ld la A lc i Pz b4 b3 b2 b1)) w60 (by kernel_rfl) ?_
  rcases Bool.eq_false_or_eq_true (numOk u13) with fk39 | fk39
  rotate_left
  ·skip
   refine J.head (.bool true) (congrArg Value.bool (by rw [fk39]; rfl)) ?_
   have hbad := rd_bad hZ (by omega) (by rw [← e_u13]; exact fk39)
   have S242 : Sep w [rowOf Eng.encI lb ld 3 1 B, box b2 [iv 0, iv 0] 40, box b1 [.slice none 0 0] 24] w60 := S182.sub (.cons _ (.cons _ (.cons _ (.cons _ (.cons _ (.cons _ (.cons _ (.cons _ (.cons _ (.cons _ (.cons _ (.cons _ (.cons _ (.cons _ (.cons _ (.cons _ (.cons _ (.cons_cons _ (.cons _ (.cons _ (.cons _ (.cons_cons _ (.cons_cons _ (List.nil_sublist _))))))))))))))))))))))))
   clear S182
   refine J.run 2 K14_186 [(15, iv 6), (9, .slice lb B.length ld), (6, iv i), (3, pt b2), (2, pt b1)] w60 (by kernel_rfl) ?_
   obtain ⟨p28, hp28⟩ := row1_addr (S242.nth 0 rfl) (show 0 < (B).length by first | omega | (simp; omega))
   refine J.drawPlan (fun w_ => Sep w [rowOf Eng.encI lb ld 3 1 B, box b1 [.slice none 0 0] 24] w_) [(0, true), (1, true), (2, true), (3, true), (4, true), (5, true), (6, true), (7, true), (8, true), (9, false), (10, false), (11, true)] S242 Tryd.mixed (by kernel_rfl) (planOK_of (T := [(0, some 115, 0), (0, some 116, 64), (2, some 117, 83076749736557242056487941267521536), (0, some 118, 512), (0, some 119, 32768), (16, some 120, 664613997892457936451903530140172288), (40, some 121, 1661534994731144841129758825350430720), (64, some 122, 2658455991569831745807614120560689152), (132, some 123, 5483065482612777975728204123656421376), (1, none, 41538374868278621028243970633760772), (1023, none, 10633823966279326983230456482242756616), (2047, some 4, 0)]) (by kernel_rfl) (by kernel_rfl)) ?_
   intro w93 S243
   refine PB.mk (S243.erase 1) ?_
   refine PL.take 0 115 (.agg #[.slice none 0 0]) (fun _ _ => by kernel_rfl) ?_
   refine PL.take 1 116 (iv i) (fun _ _ => by kernel_rfl) ?_
   refine PL.take 2 117 (iv (IntKind.wrap .i64 (i + 1))) (fun _ _ => by kernel_rfl) ?_
   refine PL.head (iv (i + 1)) (congrArg (Value.int .i64) (IntWalk.i64_in _ (by omega))) ?_
   refine PL.take 3 118 (.slice lb B.length ld) (fun _ _ => by kernel_rfl) ?_
   refine PL.take 4 119 (iv 6) (fun _ _ => by kernel_rfl) ?_
   refine PL.take 5 120 (iv 7) (fun _ _ => by kernel_rfl) ?_
   refine PL.takeOK 6 (fun w_ S_ => OK.index 121 59 1 lb p28 B.length 7 7 (p28.add 7) (by kernel_rfl) (by kernel_rfl) hp28 (by omega) (by first | omega | (simp; omega)) (by rw [Nat.mul_one])) rfl ?_
   refine PL.takeOK 7 (fun w_ S_ => OK.ldCell 122 3 (p28.add 7) (iv (B.getD 7 0)) (by kernel_rfl) (by kernel_rfl) (row1_cell (g := (Value.int .i64)) S_ 0 rfl hp28 0 7 (by first | omega | (simp; omega)))) rfl ?_
   refine PL.take 8 123 (.agg #[iv (i + 1), iv (B.getD 7 0)]) (fun _ _ => by kernel_rfl) ?_
   refine PL.stBox S243 2 24 0 (.agg #[.slice none 0 0]) [.slice none 0 0] [rowOf Eng.encI lb ld 3 1 B, box b2 [iv 0, iv 0] 40, box b1 [.slice none 0 0] 24] (by kernel_rfl) rfl (by kernel_rfl) (by kernel_rfl) rfl ?_
   intro w94 S244
   refine PB.mk (S244.erase 1) ?_
   refine PL.stBox S244 1 40 0 (.agg #[iv (i + 1), iv (B.getD 7 0)]) [iv (i + 1), iv (B.getD 7 0)] [rowOf Eng.encI lb ld 3 1 B, box b2 [iv (i + 1), iv (B.getD 7 0)] 40, box b1 [.slice none 0 0] 24] (by kernel_rfl) rfl (by kernel_rfl) (by kernel_rfl) rfl ?_
   intro w95 S245
   refine PB.mk (S245.erase 1) ?_
   refine PL.take 11 4 (iv 3) (fun _ _ => by kernel_rfl) ?_
   refine PL.done ?_
   refine J.run 0 (rRest K14_186) [(4, iv 3), (3, pt b2), (2, pt b1)] w95 (by kernel_rfl) ?_
   refine J.ret Tryd.f14 [.agg #[.slice none 0 0], .agg #[iv (i + 1), iv (B.getD 7 0)], iv 3] Tryd.func14 ⟨⟨⟨b1, 0, none⟩, by kernel_rfl, ldV_run (S245.nth 2 rfl) (by kernel_rfl)⟩, ⟨⟨b2, 0, none⟩, by kernel_rfl, ldV_run (S245.nth 1 rfl) (by kernel_rfl)⟩, by kernel_rfl, trivial⟩ ?_
   refine hR _ _ ?_
   rw [show B.getD 7 0 = (L.getD 7 wd0).2 from by rw [hB]; exact snd_at L 7]
   exact bad_post (bad_line hQ h0 (by omega) hx1 hL (by omega) hZl hbad) S245
  refine J.head (.bool false) (congrArg Value.bool (by rw [fk39]; rfl)) ?_
  replace hZ : Z = rdS [1, 1, 1] 0 (L.drop 8) ((x.size : Int) + 1) := rd_ok hZ (by omega) (by rw [← e_u13]; exact fk39)
  refine J.run 8 K14_137 ((97, iv 7) :: (96, iv ((A.length - 1 : Nat) : Int)) :: (95, .slice (subA la lc 1 1) (A.length - 1) (lc - 1)) :: (K14ES b27 b6 b5 x lb B ld la A lc i Pz b4 b3 b2 b1)) w60 (by kernel_rfl) ?_
  refine J.run 5 K14_138 ((98, .bool (decide (7 < ((A.length - 1 : Nat) : Int)))) :: (97, iv 7) :: (96, iv ((A.length - 1 : Nat) : Int)) :: (95, .slice (subA la lc 1 1) (A.length - 1) (lc - 1)) :: (K14ES b27 b6 b5 x lb B ld la A lc i Pz b4 b3 b2 b1)) w60 (by kernel_rfl) ?_
  by_cases fk40 : 7 < ((A.length - 1 : Nat) : Int)
  rotate_left
  ·skip
   refine J.head (.bool false) (congrArg Value.bool (decide_eq_false fk40)) ?_
   have S239 : Sep w [box b2 [iv 0, iv 0] 40, box b1 [.slice none 0 0] 24] w60 := S182.sub (.cons _ (.cons _ (.cons _ (.cons _ (.cons _ (.cons _ (.cons _ (.cons _ (.cons _ (.cons _ (.cons _ (.cons _ (.cons _ (.cons _ (.cons _ (.cons _ (.cons _ (.cons _ (.cons _ (.cons _ (.cons _ (.cons_cons _ (.cons_cons _ (List.nil_sublist _))))))))))))))))))))))))
   clear S182
   refine J.run 8 K14_181 ((127, iv (IntKind.wrap .i64 ((A.length : Int) - 1))) :: (13, .slice (some ⟨b27, 0, none⟩) 10 10) :: (14, iv 0) :: (12, pt b6) :: (11, pt b5) :: (10, iv ((x.size : Int) + 1)) :: (8, .slice la A.length lc) :: (6, iv i) :: (K14E0 i Pz b4 b3 b2 b1)) w60 (by kernel_rfl) ?_
   refine J.head (iv ((A.length : Int) - 1)) (congrArg (Value.int .i64) (IntWalk.i64_in _ (by omega))) ?_
   refine J.run 6 K14_182 ((132, .bool (decide (((A.length : Int) - 1) < 10))) :: (12, pt b6) :: (11, pt b5) :: (10, iv ((x.size : Int) + 1)) :: (8, .slice la A.length lc) :: (6, iv i) :: (K14E0 i Pz b4 b3 b2 b1)) w60 (by kernel_rfl) ?_
   have fk55 : ((A.length : Int) - 1) < 10 := by omega
   refine J.head (.bool true) (congrArg Value.bool (decide_eq_true fk55)) ?_
   refine J.run 6 K14_183 [(135, iv (IntKind.wrap .i64 (i + 1))), (133, .agg #[.slice none 0 0]), (10, iv ((x.size : Int) + 1)), (3, pt b2), (2, pt b1)] w60 (by kernel_rfl) ?_
   refine J.head (iv (i + 1)) (congrArg (Value.int .i64) (IntWalk.i64_in _ (by omega))) ?_
   refine J.run 2 K14_184 [(137, .agg #[iv (i + 1), iv ((x.size : Int) + 1)]), (133, .agg #[.slice none 0 0]), (3, pt b2), (2, pt b1)] w60 (by kernel_rfl) ?_
   refine J.stBox S239 1 24 0 (.agg #[.slice none 0 0]) [.slice none 0 0] [box b2 [iv 0, iv 0] 40, box b1 [.slice none 0 0] 24] (by kernel_rfl) rfl (by kernel_rfl) (by kernel_rfl) rfl ?_
   intro w91 S240
   refine J.stBox S240 0 40 0 (.agg #[iv (i + 1), iv ((x.size : Int) + 1)]) [iv (i + 1), iv ((x.size : Int) + 1)] [box b2 [iv (i + 1), iv ((x.size : Int) + 1)] 40, box b1 [.slice none 0 0] 24] (by kernel_rfl) rfl (by kernel_rfl) (by kernel_rfl) rfl ?_
   intro w92 S241
   refine J.run 2 K14_185 [(4, iv 4), (3, pt b2), (2, pt b1)] w92 (by kernel_rfl) ?_
   refine J.ret Tryd.f14 [.agg #[.slice none 0 0], .agg #[iv (i + 1), iv ((x.size : Int) + 1)], iv 4] Tryd.func14 ⟨⟨⟨b1, 0, none⟩, by kernel_rfl, ldV_run (S241.nth 1 rfl) (by kernel_rfl)⟩, ⟨⟨b2, 0, none⟩, by kernel_rfl, ldV_run (S241.nth 0 rfl) (by kernel_rfl)⟩, by kernel_rfl, trivial⟩ ?_
   refine hR _ _ ?_
   exact bad_post (bad_line hQ h0 (by omega) hx1 hL (by omega) hZl (rd_few hZ (by omega) (by decide))) S241
  refine J.head (.bool true) (congrArg Value.bool (decide_eq_true fk40)) ?_
  refine J.run 7 K14_139 ((99, iv 7) :: (97, iv 7) :: (96, iv ((A.length - 1 : Nat) : Int)) :: (95, .slice (subA la lc 1 1) (A.length - 1) (lc - 1)) :: (K14ES b27 b6 b5 x lb B ld la A lc i Pz b4 b3 b2 b1)) w60 (by kernel_rfl) ?_
  obtain ⟨p19, hp19, hc14⟩ := (ones_drop (row1_ones (S182.nth 16 rfl) _ rfl) lc 1 (by omega) (by omega)).at ByteArray.empty 7 (by omega)
  refine J.ok (OK.index 100 49 1 (subA la lc 1 1) p19 (A.length - 1) 7 7 (p19.add 7) (by kernel_rfl) (by kernel_rfl) hp19 (by omega) (by omega) (by rw [Nat.mul_one])) ?_
  refine J.ok (OK.ldCell 101 9 (p19.add 7) (.string ((A.drop 1).getD 7 ByteArray.empty)) (by kernel_rfl) (by kernel_rfl) hc14) ?_
  obtain ⟨u14, hu14⟩ : ∃ x : ByteArray, x = (A.drop 1).getD 7 ByteArray.empty := ⟨_, rfl⟩
  have e_u14 : u14 = wAt L 8 := by rw [hu14, hA]; exact fst_drop L 7
  have z_u14 : u14.size ≤ 1000000 := by rw [e_u14]; exact hws _
  refine J.head (.string u14) (congrArg Value.string hu14.symm) ?_
  refine J.run 12 K14_140 ((108, iv 7) :: (107, .slice (some ⟨b27, 0, none⟩) 10 10) :: (106, .bool false) :: (16, .string u14) :: (15, iv 7) :: (97, iv 7) :: (96, iv ((A.length - 1 : Nat) : Int)) :: (95, .slice (subA la lc 1 1) (A.length - 1) (lc - 1)) :: (K14ES b27 b6 b5 x lb B ld la A lc i Pz b4 b3 b2 b1)) w60 (by kernel_rfl) ?_
  refine J.ok (OK.index 109 81 1 (some ⟨b27, 0, none⟩) ⟨b27, 0, none⟩ 10 7 7 ⟨b27, 7, none⟩ (by kernel_rfl) (by kernel_rfl) rfl (by omega) (by omega) (by rfl)) ?_
  refine J.ok (OK.ldBox S182 1 110 82 7 (.func (.func 60) #[] #[pt b24]) (by kernel_rfl) rfl (by kernel_rfl)) ?_
  refine J.run 1 K14_141 ((111, .string u14) :: (110, .func (.func 60) #[] #[pt b24]) :: (106, .bool false) :: (15, iv 7) :: (97, iv 7) :: (96, iv ((A.length - 1 : Nat) : Int)) :: (95, .slice (subA la lc 1 1) (A.length - 1) (lc - 1)) :: (K14ES b27 b6 b5 x lb B ld la A lc i Pz b4 b3 b2 b1)) w60 (by kernel_rfl) ?_
  have S183 := S182.front 4 rfl
  clear S182
  refine J.callF 112 60 #[.string u14, pt b24] hb60 (by kernel_rfl) (number57_7 b6 b24 (.string u7) (iv (parX u8)) (iv (parX u9)) (.bool (eqT u10 WMo)) (.bool (eqT u11 WSi)) (iv (parX u12)) (iv (parX u13)) (iv 0) (iv 0) (iv 0) u14 _ _ _ S183 (by first | omega | exact hws _) hW) ?_
  rintro _ w61 ⟨rfl, S184⟩
  clear S183
  have S185 := S184.front 4 rfl
  clear S184
  have S186 := S185.front 4 rfl
  clear S185
  have S187 := S186.front 4 rfl
  clear S186
  have S188 : Sep w (box b6 [.string u7, iv (parX u8), iv (parX u9), .bool (eqT u10 WMo), .bool (eqT u11 WSi), iv (parX u12), iv (parX u13), iv (parX u14), iv 0, iv 0] 57 :: (K14TS b27 b13 b14 b15 b17 b16 b18 b20 b19 b21 b22 b23 b24 b25 b26 b6 la lc A lb ld B ra rc out b4 Pz b3 b2 b1)) w61 := S187.front 4 rfl
  clear S187
  refine J.run 3 K14_142 ((114, .bool (!(numOk u14))) :: (15, iv 7) :: (97, iv 7) :: (96, iv ((A.length - 1 : Nat) : Int)) :: (95, .slice (subA la lc 1 1) (A.length - 1) (lc - 1)) :: (K14ES b27 b6 b5 x lb B ld la A lc i Pz b4 b3 b2 b1)) w61 (by kernel_rfl) ?_
  rcases Bool.eq_false_or_eq_true (numOk u14) with fk41 | fk41
  rotate_left
  ·skip
   refine J.head (.bool true) (congrArg Value.bool (by rw [fk41]; rfl)) ?_
   have hbad := rd_bad hZ (by omega) (by rw [← e_u14]; exact fk41)
   have S235 : Sep w [rowOf Eng.encI lb ld 3 1 B, box b2 [iv 0, iv 0] 40, box b1 [.slice none 0 0] 24] w61 := S188.sub (.cons _ (.cons _ (.cons _ (.cons _ (.cons _ (.cons _ (.cons _ (.cons _ (.cons _ (.cons _ (.cons _ (.cons _ (.cons _ (.cons _ (.cons _ (.cons _ (.cons _ (.cons_cons _ (.cons _ (.cons _ (.cons _ (.cons_cons _ (.cons_cons _ (List.nil_sublist _))))))))))))))))))))))))
   clear S188
   refine J.run 2 K14_180 [(15, iv 7), (9, .slice lb B.length ld), (6, iv i), (3, pt b2), (2, pt b1)] w61 (by kernel_rfl) ?_
   obtain ⟨p27, hp27⟩ := row1_addr (S235.nth 0 rfl) (show 0 < (B).length by first | omega | (simp; omega))
   refine J.drawPlan (fun w_ => Sep w [rowOf Eng.encI lb ld 3 1 B, box b1 [.slice none 0 0] 24] w_) [(0, true), (1, true), (2, true), (3, true), (4, true), (5, true), (6, true), (7, true), (8, true), (9, false), (10, false), (11, true)] S235 Tryd.mixed (by kernel_rfl) (planOK_of (T := [(0, some 115, 0), (0, some 116, 64), (2, some 117, 83076749736557242056487941267521536), (0, some 118, 512), (0, some 119, 32768), (16, some 120, 664613997892457936451903530140172288), (40, some 121, 1661534994731144841129758825350430720), (64, some 122, 2658455991569831745807614120560689152), (132, some 123, 5483065482612777975728204123656421376), (1, none, 41538374868278621028243970633760772), (1023, none, 10633823966279326983230456482242756616), (2047, some 4, 0)]) (by kernel_rfl) (by kernel_rfl)) ?_
   intro w88 S236
   refine PB.mk (S236.erase 1) ?_
   refine PL.take 0 115 (.agg #[.slice none 0 0]) (fun _ _ => by kernel_rfl) ?_
   refine PL.take 1 116 (iv i) (fun _ _ => by kernel_rfl) ?_
   refine PL.take 2 117 (iv (IntKind.wrap .i64 (i + 1))) (fun _ _ => by kernel_rfl) ?_
   refine PL.head (iv (i + 1)) (congrArg (Value.int .i64) (IntWalk.i64_in _ (by omega))) ?_
   refine PL.take 3 118 (.slice lb B.length ld) (fun _ _ => by kernel_rfl) ?_
   refine PL.take 4 119 (iv 7) (fun _ _ => by kernel_rfl) ?_
   refine PL.take 5 120 (iv 8) (fun _ _ => by kernel_rfl) ?_
   refine PL.takeOK 6 (fun w_ S_ => OK.index 121 59 1 lb p27 B.length 8 8 (p27.add 8) (by kernel_rfl) (by kernel_rfl) hp27 (by omega) (by first | omega | (simp; omega)) (by rw [Nat.mul_one])) rfl ?_
   refine PL.takeOK 7 (fun w_ S_ => OK.ldCell 122 3 (p27.add 8) (iv (B.getD 8 0)) (by kernel_rfl) (by kernel_rfl) (row1_cell (g := (Value.int .i64)) S_ 0 rfl hp27 0 8 (by first | omega | (simp; omega)))) rfl ?_
   refine PL.take 8 123 (.agg #[iv (i + 1), iv (B.getD 8 0)]) (fun _ _ => by kernel_rfl) ?_
   refine PL.stBox S236 2 24 0 (.agg #[.slice none 0 0]) [.slice none 0 0] [rowOf Eng.encI lb ld 3 1 B, box b2 [iv 0, iv 0] 40, box b1 [.slice none 0 0] 24] (by kernel_rfl) rfl (by kernel_rfl) (by kernel_rfl) rfl ?_
   intro w89 S237
   refine PB.mk (S237.erase 1) ?_
   refine PL.stBox S237 1 40 0 (.agg #[iv (i + 1), iv (B.getD 8 0)]) [iv (i + 1), iv (B.getD 8 0)] [rowOf Eng.encI lb ld 3 1 B, box b2 [iv (i + 1), iv (B.getD 8 0)] 40, box b1 [.slice none 0 0] 24] (by kernel_rfl) rfl (by kernel_rfl) (by kernel_rfl) rfl ?_
   intro w90 S238
   refine PB.mk (S238.erase 1) ?_
   refine PL.take 11 4 (iv 3) (fun _ _ => by kernel_rfl) ?_
   refine PL.done ?_
   refine J.run 0 (rRest K14_180) [(4, iv 3), (3, pt b2), (2, pt b1)] w90 (by kernel_rfl) ?_
   refine J.ret Tryd.f14 [.agg #[.slice none 0 0], .agg #[iv (i + 1), iv (B.getD 8 0)], iv 3] Tryd.func14 ⟨⟨⟨b1, 0, none⟩, by kernel_rfl, ldV_run (S238.nth 2 rfl) (by kernel_rfl)⟩, ⟨⟨b2, 0, none⟩, by kernel_rfl, ldV_run (S238.nth 1 rfl) (by kernel_rfl)⟩, by kernel_rfl, trivial⟩ ?_
   refine hR _ _ ?_
   rw [show B.getD 8 0 = (L.getD 8 wd0).2 from by rw [hB]; exact snd_at L 8]
   exact bad_post (bad_line hQ h0 (by omega) hx1 hL (by omega) hZl hbad) S238
  refine J.head (.bool false) (congrArg Value.bool (by rw [fk41]; rfl)) ?_
  replace hZ : Z = rdS [1, 1] 0 (L.drop 9) ((x.size : Int) + 1) := rd_ok hZ (by omega) (by rw [← e_u14]; exact fk41)
  refine J.run 8 K14_143 ((97, iv 8) :: (96, iv ((A.length - 1 : Nat) : Int)) :: (95, .slice (subA la lc 1 1) (A.length - 1) (lc - 1)) :: (K14ES b27 b6 b5 x lb B ld la A lc i Pz b4 b3 b2 b1)) w61 (by kernel_rfl) ?_
  refine J.run 5 K14_144 ((98, .bool (decide (8 < ((A.length - 1 : Nat) : Int)))) :: (97, iv 8) :: (96, iv ((A.length - 1 : Nat) : Int)) :: (95, .slice (subA la lc 1 1) (A.length - 1) (lc - 1)) :: (K14ES b27 b6 b5 x lb B ld la A lc i Pz b4 b3 b2 b1)) w61 (by kernel_rfl) ?_
  by_cases fk42 : 8 < ((A.length - 1 : Nat) : Int)
  rotate_left
  ·skip
   refine J.head (.bool false) (congrArg Value.bool (decide_eq_false fk42)) ?_
   have S232 : Sep w [box b2 [iv 0, iv 0] 40, box b1 [.slice none 0 0] 24] w61 := S188.sub (.cons _ (.cons _ (.cons _ (.cons _ (.cons _ (.cons _ (.cons _ (.cons _ (.cons _ (.cons _ (.cons _ (.cons _ (.cons _ (.cons _ (.cons _ (.cons _ (.cons _ (.cons _ (.cons _ (.cons _ (.cons _ (.cons_cons _ (.cons_cons _ (List.nil_sublist _))))))))))))))))))))))))
   clear S188
   refine J.run 8 K14_175 ((127, iv (IntKind.wrap .i64 ((A.length : Int) - 1))) :: (13, .slice (some ⟨b27, 0, none⟩) 10 10) :: (14, iv 0) :: (12, pt b6) :: (11, pt b5) :: (10, iv ((x.size : Int) + 1)) :: (8, .slice la A.length lc) :: (6, iv i) :: (K14E0 i Pz b4 b3 b2 b1)) w61 (by kernel_rfl) ?_
   refine J.head (iv ((A.length : Int) - 1)) (congrArg (Value.int .i64) (IntWalk.i64_in _ (by omega))) ?_
   refine J.run 6 K14_176 ((132, .bool (decide (((A.length : Int) - 1) < 10))) :: (12, pt b6) :: (11, pt b5) :: (10, iv ((x.size : Int) + 1)) :: (8, .slice la A.length lc) :: (6, iv i) :: (K14E0 i Pz b4 b3 b2 b1)) w61 (by kernel_rfl) ?_
   have fk53 : ((A.length : Int) - 1) < 10 := by omega
   refine J.head (.bool true) (congrArg Value.bool (decide_eq_true fk53)) ?_
   refine J.run 6 K14_177 [(135, iv (IntKind.wrap .i64 (i + 1))), (133, .agg #[.slice none 0 0]), (10, iv ((x.size : Int) + 1)), (3, pt b2), (2, pt b1)] w61 (by kernel_rfl) ?_
   refine J.head (iv (i + 1)) (congrArg (Value.int .i64) (IntWalk.i64_in _ (by omega))) ?_
   refine J.run 2 K14_178 [(137, .agg #[iv (i + 1), iv ((x.size : Int) + 1)]), (133, .agg #[.slice none 0 0]), (3, pt b2), (2, pt b1)] w61 (by kernel_rfl) ?_
   refine J.stBox S232 1 24 0 (.agg #[.slice none 0 0]) [.slice none 0 0] [box b2 [iv 0, iv 0] 40, box b1 [.slice none 0 0] 24] (by kernel_rfl) rfl (by kernel_rfl) (by kernel_rfl) rfl ?_
   intro w86 S233
   refine J.stBox S233 0 40 0 (.agg #[iv (i + 1), iv ((x.size : Int) + 1)]) [iv (i + 1), iv ((x.size : Int) + 1)] [box b2 [iv (i + 1), iv ((x.size : Int) + 1)] 40, box b1 [.slice none 0 0] 24] (by kernel_rfl) rfl (by kernel_rfl) (by kernel_rfl) rfl ?_
   intro w87 S234
   refine J.run 2 K14_179 [(4, iv 4), (3, pt b2), (2, pt b1)] w87 (by kernel_rfl) ?_
   refine J.ret Tryd.f14 [.agg #[.slice none 0 0], .agg #[iv (i + 1), iv ((x.size : Int) + 1)], iv 4] Tryd.func14 ⟨⟨⟨b1, 0, none⟩, by kernel_rfl, ldV_run (S234.nth 1 rfl) (by kernel_rfl)⟩, ⟨⟨b2, 0, none⟩, by kernel_rfl, ldV_run (S234.nth 0 rfl) (by kernel_rfl)⟩, by kernel_rfl, trivial⟩ ?_
   refine hR _ _ ?_
   exact bad_post (bad_line hQ h0 (by omega) hx1 hL (by omega) hZl (rd_few hZ (by omega) (by decide))) S234
  refine J.head (.bool true) (congrArg Value.bool (decide_eq_true fk42)) ?_
  refine J.run 7 K14_145 ((99, iv 8) :: (97, iv 8) :: (96, iv ((A.length - 1 : Nat) : Int)) :: (95, .slice (subA la lc 1 1) (A.length - 1) (lc - 1)) :: (K14ES b27 b6 b5 x lb B ld la A lc i Pz b4 b3 b2 b1)) w61 (by kernel_rfl) ?_
  obtain ⟨p20, hp20, hc15⟩ := (ones_drop (row1_ones (S188.nth 16 rfl) _ rfl) lc 1 (by omega) (by omega)).at ByteArray.empty 8 (by omega)
  refine J.ok (OK.index 100 49 1 (subA la lc 1 1) p20 (A.length - 1) 8 8 (p20.add 8) (by kernel_rfl) (by kernel_rfl) hp20 (by omega) (by omega) (by rw [Nat.mul_one])) ?_
  refine J.ok (OK.ldCell 101 9 (p20.add 8) (.string ((A.drop 1).getD 8 ByteArray.empty)) (by kernel_rfl) (by kernel_rfl) hc15) ?_
  obtain ⟨u15, hu15⟩ : ∃ x : ByteArray, x = (A.drop 1).getD 8 ByteArray.empty := ⟨_, rfl⟩
  have e_u15 : u15 = wAt L 9 := by rw [hu15, hA]; exact fst_drop L 8
  have z_u15 : u15.size ≤ 1000000 := by rw [e_u15]; exact hws _
  refine J.head (.string u15) (congrArg Value.string hu15.symm) ?_
  refine J.run 12 K14_146 ((108, iv 8) :: (107, .slice (some ⟨b27, 0, none⟩) 10 10) :: (106, .bool false) :: (16, .string u15) :: (15, iv 8) :: (97, iv 8) :: (96, iv ((A.length - 1 : Nat) : Int)) :: (95, .slice (subA la lc 1 1) (A.length - 1) (lc - 1)) :: (K14ES b27 b6 b5 x lb B ld la A lc i Pz b4 b3 b2 b1)) w61 (by kernel_rfl) ?_
  refine J.ok (OK.index 109 81 1 (some ⟨b27, 0, none⟩) ⟨b27, 0, none⟩ 10 8 8 ⟨b27, 8, none⟩ (by kernel_rfl) (by kernel_rfl) rfl (by omega) (by omega) (by rfl)) ?_
  refine J.ok (OK.ldBox S188 1 110 82 8 (.func (.func 60) #[] #[pt b25]) (by kernel_rfl) rfl (by kernel_rfl)) ?_
  refine J.run 1 K14_147 ((111, .string u15) :: (110, .func (.func 60) #[] #[pt b25]) :: (106, .bool false) :: (15, iv 8) :: (97, iv 8) :: (96, iv ((A.length - 1 : Nat) : Int)) :: (95, .slice (subA la lc 1 1) (A.length - 1) (lc - 1)) :: (K14ES b27 b6 b5 x lb B ld la A lc i Pz b4 b3 b2 b1)) w61 (by kernel_rfl) ?_
  have S189 := S188.front 3 rfl
  clear S188
  refine J.callF 112 60 #[.string u15, pt b25] hb60 (by kernel_rfl) (number57_8 b6 b25 (.string u7) (iv (parX u8)) (iv (parX u9)) (.bool (eqT u10 WMo)) (.bool (eqT u11 WSi)) (iv (parX u12)) (iv (parX u13)) (iv (parX u14)) (iv 0) (iv 0) u15 _ _ _ S189 (by first | omega | exact hws _) hW) ?_
  rintro _ w62 ⟨rfl, S190⟩
  clear S189
  have S191 := S190.front 3 rfl
  clear S190
  have S192 := S191.front 3 rfl
  clear S191
  have S193 : Sep w (box b6 [.string u7, iv (parX u8), iv (parX u9), .bool (eqT u10 WMo), .bool (eqT u11 WSi), iv (parX u12), iv (parX u13), iv (parX u14), iv (parX u15), iv 0] 57 :: (K14TS b27 b13 b14 b15 b17 b16 b18 b20 b19 b21 b22 b23 b24 b25 b26 b6 la lc A lb ld B ra rc out b4 Pz b3 b2 b1)) w62 := S192.front 3 rfl
  clear S192
  refine J.run 3 K14_148 ((114, .bool (!(numOk u15))) :: (15, iv 8) :: (97, iv 8) :: (96, iv ((A.length - 1 : Nat) : Int)) :: (95, .slice (subA la lc 1 1) (A.length - 1) (lc - 1)) :: (K14ES b27 b6 b5 x lb B ld la A lc i Pz b4 b3 b2 b1)) w62 (by kernel_rfl) ?_
  rcases Bool.eq_false_or_eq_true (numOk u15) with fk43 | fk43
  rotate_left
  ·skip
   refine J.head (.bool true) (congrArg Value.bool (by rw [fk43]; rfl)) ?_
   have hbad := rd_bad hZ (by omega) (by rw [← e_u15]; exact fk43)
   have S228 : Sep w [rowOf Eng.encI lb ld 3 1 B, box b2 [iv 0, iv 0] 40, box b1 [.slice none 0 0] 24] w62 := S193.sub (.cons _ (.cons _ (.cons _ (.cons _ (.cons _ (.cons _ (.cons _ (.cons _ (.cons _ (.cons _ (.cons _ (.cons _ (.cons _ (.cons _ (.cons _ (.cons _ (.cons _ (.cons_cons _ (.cons _ (.cons _ (.cons _ (.cons_cons _ (.cons_cons _ (List.nil_sublist _))))))))))))))))))))))))
   clear S193
   refine J.run 2 K14_174 [(15, iv 8), (9, .slice lb B.length ld), (6, iv i), (3, pt b2), (2, pt b1)] w62 (by kernel_rfl) ?_
   obtain ⟨p26, hp26⟩ := row1_addr (S228.nth 0 rfl) (show 0 < (B).length by first | omega | (simp; omega))
   refine J.drawPlan (fun w_ => Sep w [rowOf Eng.encI lb ld 3 1 B, box b1 [.slice none 0 0] 24] w_) [(0, true), (1, true), (2, true), (3, true), (4, true), (5, true), (6, true), (7, true), (8, true), (9, false), (10, false), (11, true)] S228 Tryd.mixed (by kernel_rfl) (planOK_of (T := [(0, some 115, 0), (0, some 116, 64), (2, some 117, 83076749736557242056487941267521536), (0, some 118, 512), (0, some 119, 32768), (16, some 120, 664613997892457936451903530140172288), (40, some 121, 1661534994731144841129758825350430720), (64, some 122, 2658455991569831745807614120560689152), (132, some 123, 5483065482612777975728204123656421376), (1, none, 41538374868278621028243970633760772), (1023, none, 10633823966279326983230456482242756616), (2047, some 4, 0)]) (by kernel_rfl) (by kernel_rfl)) ?_
   intro w83 S229
   refine PB.mk (S229.erase 1) ?_
   refine PL.take 0 115 (.agg #[.slice none 0 0]) (fun _ _ => by kernel_rfl) ?_
   refine PL.take 1 116 (iv i) (fun _ _ => by kernel_rfl) ?_
   refine PL.take 2 117 (iv (IntKind.wrap .i64 (i + 1))) (fun _ _ => by kernel_rfl) ?_
   refine PL.head (iv (i + 1)) (congrArg (Value.int .i64) (IntWalk.i64_in _ (by omega))) ?_
   refine PL.take 3 118 (.slice lb B.length ld) (fun _ _ => by kernel_rfl) ?_
   refine PL.take 4 119 (iv 8) (fun _ _ => by kernel_rfl) ?_
   refine PL.take 5 120 (iv 9) (fun _ _ => by kernel_rfl) ?_
   refine PL.takeOK 6 (fun w_ S_ => OK.index 121 59 1 lb p26 B.length 9 9 (p26.add 9) (by kernel_rfl) (by kernel_rfl) hp26 (by omega) (by first | omega | (simp; omega)) (by rw [Nat.mul_one])) rfl ?_
   refine PL.takeOK 7 (fun w_ S_ => OK.ldCell 122 3 (p26.add 9) (iv (B.getD 9 0)) (by kernel_rfl) (by kernel_rfl) (row1_cell (g := (Value.int .i64)) S_ 0 rfl hp26 0 9 (by first | omega | (simp; omega)))) rfl ?_
   refine PL.take 8 123 (.agg #[iv (i + 1), iv (B.getD 9 0)]) (fun _ _ => by kernel_rfl) ?_
   refine PL.stBox S229 2 24 0 (.agg #[.slice none 0 0]) [.slice none 0 0] [rowOf Eng.encI lb ld 3 1 B, box b2 [iv 0, iv 0] 40, box b1 [.slice none 0 0] 24] (by kernel_rfl) rfl (by kernel_rfl) (by kernel_rfl) rfl ?_
   intro w84 S230
   refine PB.mk (S230.erase 1) ?_
   refine PL.stBox S230 1 40 0 (.agg #[iv (i + 1), iv (B.getD 9 0)]) [iv (i + 1), iv (B.getD 9 0)] [rowOf Eng.encI lb ld 3 1 B, box b2 [iv (i + 1), iv (B.getD 9 0)] 40, box b1 [.slice none 0 0] 24] (by kernel_rfl) rfl (by kernel_rfl) (by kernel_rfl) rfl ?_
   intro w85 S231
   refine PB.mk (S231.erase 1) ?_
   refine PL.take 11 4 (iv 3) (fun _ _ => by kernel_rfl) ?_
   refine PL.done ?_
   refine J.run 0 (rRest K14_174) [(4, iv 3), (3, pt b2), (2, pt b1)] w85 (by kernel_rfl) ?_
   refine J.ret Tryd.f14 [.agg #[.slice none 0 0], .agg #[iv (i + 1), iv (B.getD 9 0)], iv 3] Tryd.func14 ⟨⟨⟨b1, 0, none⟩, by kernel_rfl, ldV_run (S231.nth 2 rfl) (by kernel_rfl)⟩, ⟨⟨b2, 0, none⟩, by kernel_rfl, ldV_run (S231.nth 1 rfl) (by kernel_rfl)⟩, by kernel_rfl, trivial⟩ ?_
   refine hR _ _ ?_
   rw [show B.getD 9 0 = (L.getD 9 wd0).2 from by rw [hB]; exact snd_at L 9]
   exact bad_post (bad_line hQ h0 (by omega) hx1 hL (by omega) hZl hbad) S231
  refine J.head (.bool false) (congrArg Value.bool (by rw [fk43]; rfl)) ?_
  replace hZ : Z = rdS [1] 0 (L.drop 10) ((x.size : Int) + 1) := rd_ok hZ (by omega) (by rw [← e_u15]; exact fk43)
  refine J.run 8 K14_149 ((97, iv 9) :: (96, iv ((A.length - 1 : Nat) : Int)) :: (95, .slice (subA la lc 1 1) (A.length - 1) (lc - 1)) :: (K14ES b27 b6 b5 x lb B ld la A lc i Pz b4 b3 b2 b1)) w62 (by kernel_rfl) ?_
  refine J.run 5 K14_150 ((98, .bool (decide (9 < ((A.length - 1 : Nat) : Int)))) :: (97, iv 9) :: (96, iv ((A.length - 1 : Nat) : Int)) :: (95, .slice (subA la lc 1 1) (A.length - 1) (lc - 1)) :: (K14ES b27 b6 b5 x lb B ld la A lc i Pz b4 b3 b2 b1)) w62 (by kernel_rfl) ?_
  by_cases fk44 : 9 < ((A.length - 1 : Nat) : Int)
  rotate_left
  ·skip
   refine J.head (.bool false) (congrArg Value.bool (decide_eq_false fk44)) ?_
   have S225 : Sep w [box b2 [iv 0, iv 0] 40, box b1 [.slice none 0 0] 24] w62 := S193.sub (.cons _ (.cons _ (.cons _ (.cons _ (.cons _ (.cons _ (.cons _ (.cons _ (.cons _ (.cons _ (.cons _ (.cons _ (.cons _ (.cons _ (.cons _ (.cons _ (.cons _ (.cons _ (.cons _ (.cons _ (.cons _ (.cons_cons _ (.cons_cons _ (List.nil_sublist _))))))))))))))))))))))))
   clear S193
   refine J.run 8 K14_169 ((127, iv (IntKind.wrap .i64 ((A.length : Int) - 1))) :: (13, .slice (some ⟨b27, 0, none⟩) 10 10) :: (14, iv 0) :: (12, pt b6) :: (11, pt b5) :: (10, iv ((x.size : Int) + 1)) :: (8, .slice la A.length lc) :: (6, iv i) :: (K14E0 i Pz b4 b3 b2 b1)) w62 (by kernel_rfl) ?_
   refine J.head (iv ((A.length : Int) - 1)) (congrArg (Value.int .i64) (IntWalk.i64_in _ (by omega))) ?_
   refine J.run 6 K14_170 ((132, .bool (decide (((A.length : Int) - 1) < 10))) :: (12, pt b6) :: (11, pt b5) :: (10, iv ((x.size : Int) + 1)) :: (8, .slice la A.length lc) :: (6, iv i) :: (K14E0 i Pz b4 b3 b2 b1)) w62 (by kernel_rfl) ?_
   have fk51 : ((A.length : Int) - 1) < 10 := by omega
   refine J.head (.bool true) (congrArg Value.bool (decide_eq_true fk51)) ?_
   refine J.run 6 K14_171 [(135, iv (IntKind.wrap .i64 (i + 1))), (133, .agg #[.slice none 0 0]), (10, iv ((x.size : Int) + 1)), (3, pt b2), (2, pt b1)] w62 (by kernel_rfl) ?_
   refine J.head (iv (i + 1)) (congrArg (Value.int .i64) (IntWalk.i64_in _ (by omega))) ?_
   refine J.run 2 K14_172 [(137, .agg #[iv (i + 1), iv ((x.size : Int) + 1)]), (133, .agg #[.slice none 0 0]), (3, pt b2), (2, pt b1)] w62 (by kernel_rfl) ?_
   refine J.stBox S225 1 24 0 (.agg #[.slice none 0 0]) [.slice none 0 0] [box b2 [iv 0, iv 0] 40, box b1 [.slice none 0 0] 24] (by kernel_rfl) rfl (by kernel_rfl) (by kernel_rfl) rfl ?_
   intro w81 S226
   refine J.stBox S226 0 40 0 (.agg #[iv (i + 1), iv ((x.size : Int) + 1)]) [iv (i + 1), iv ((x.size : Int) + 1)] [box b2 [iv (i + 1), iv ((x.size : Int) + 1)] 40, box b1 [.slice none 0 0] 24] (by kernel_rfl) rfl (by kernel_rfl) (by kernel_rfl) rfl ?_
   intro w82 S227
   refine J.run 2 K14_173 [(4, iv 4), (3, pt b2), (2, pt b1)] w82 (by kernel_rfl) ?_
   refine J.ret Tryd.f14 [.agg #[.slice none 0 0], .agg #[iv (i + 1), iv ((x.size : Int) + 1)], iv 4] Tryd.func14 ⟨⟨⟨b1, 0, none⟩, by kernel_rfl, ldV_run (S227.nth 1 rfl) (by kernel_rfl)⟩, ⟨⟨b2, 0, none⟩, by kernel_rfl, ldV_run (S227.nth 0 rfl) (by kernel_rfl)⟩, by kernel_rfl, trivial⟩ ?_
   refine hR _ _ ?_
   exact bad_post (bad_line hQ h0 (by omega) hx1 hL (by omega) hZl (rd_few hZ (by omega) (by decide))) S227
  refine J.head (.bool true) (congrArg Value.bool (decide_eq_true fk44)) ?_
  refine J.run 7 K14_151 ((99, iv 9) :: (97, iv 9) :: (96, iv ((A.length - 1 : Nat) : Int)) :: (95, .slice (subA la lc 1 1) (A.length - 1) (lc - 1)) :: (K14ES b27 b6 b5 x lb B ld la A lc i Pz b4 b3 b2 b1)) w62 (by kernel_rfl) ?_
  obtain ⟨p21, hp21, hc16⟩ := (ones_drop (row1_ones (S193.nth 16 rfl) _ rfl) lc 1 (by omega) (by omega)).at ByteArray.empty 9 (by omega)
  refine J.ok (OK.index 100 49 1 (subA la lc 1 1) p21 (A.length - 1) 9 9 (p21.add 9) (by kernel_rfl) (by kernel_rfl) hp21 (by omega) (by omega) (by rw [Nat.mul_one])) ?_
  refine J.ok (OK.ldCell 101 9 (p21.add 9) (.string ((A.drop 1).getD 9 ByteArray.empty)) (by kernel_rfl) (by kernel_rfl) hc16) ?_
  obtain ⟨u16, hu16⟩ : ∃ x : ByteArray, x = (A.drop 1).getD 9 ByteArray.empty := ⟨_, rfl⟩
  have e_u16 : u16 = wAt L 10 := by rw [hu16, hA]; exact fst_drop L 9
  have z_u16 : u16.size ≤ 1000000 := by rw [e_u16]; exact hws _
  refine J.head (.string u16) (congrArg Value.string hu16.symm) ?_
  refine J.run 12 K14_152 ((108, iv 9) :: (107, .slice (some ⟨b27, 0, none⟩) 10 10) :: (106, .bool false) :: (16, .string u16) :: (15, iv 9) :: (97, iv 9) :: (96, iv ((A.length - 1 : Nat) : Int)) :: (95, .slice (subA la lc 1 1) (A.length - 1) (lc - 1)) :: (K14ES b27 b6 b5 x lb B ld la A lc i Pz b4 b3 b2 b1)) w62 (by kernel_rfl) ?_
  refine J.ok (OK.index 109 81 1 (some ⟨b27, 0, none⟩) ⟨b27, 0, none⟩ 10 9 9 ⟨b27, 9, none⟩ (by kernel_rfl) (by kernel_rfl) rfl (by omega) (by omega) (by rfl)) ?_
  refine J.ok (OK.ldBox S193 1 110 82 9 (.func (.func 60) #[] #[pt b26]) (by kernel_rfl) rfl (by kernel_rfl)) ?_
  refine J.run 1 K14_153 ((111, .string u16) :: (110, .func (.func 60) #[] #[pt b26]) :: (106, .bool false) :: (15, iv 9) :: (97, iv 9) :: (96, iv ((A.length - 1 : Nat) : Int)) :: (95, .slice (subA la lc 1 1) (A.length - 1) (lc - 1)) :: (K14ES b27 b6 b5 x lb B ld la A lc i Pz b4 b3 b2 b1)) w62 (by kernel_rfl) ?_
  have S194 := S193.front 2 rfl
  clear S193
  refine J.callF 112 60 #[.string u16, pt b26] hb60 (by kernel_rfl) (number57_9 b6 b26 (.string u7) (iv (parX u8)) (iv (parX u9)) (.bool (eqT u10 WMo)) (.bool (eqT u11 WSi)) (iv (parX u12)) (iv (parX u13)) (iv (parX u14)) (iv (parX u15)) (iv 0) u16 _ _ _ S194 (by first | omega | exact hws _) hW) ?_
  rintro _ w63 ⟨rfl, S195⟩
  clear S194
  have S196 := S195.front 2 rfl
  clear S195
  have S197 : Sep w (box b6 [.string u7, iv (parX u8), iv (parX u9), .bool (eqT u10 WMo), .bool (eqT u11 WSi), iv (parX u12), iv (parX u13), iv (parX u14), iv (parX u15), iv (parX u16)] 57 :: (K14TS b27 b13 b14 b15 b17 b16 b18 b20 b19 b21 b22 b23 b24 b25 b26 b6 la lc A lb ld B ra rc out b4 Pz b3 b2 b1)) w63 := S196.front 2 rfl
  clear S196
  refine J.run 3 K14_154 ((114, .bool (!(numOk u16))) :: (15, iv 9) :: (97, iv 9) :: (96, iv ((A.length - 1 : Nat) : Int)) :: (95, .slice (subA la lc 1 1) (A.length - 1) (lc - 1)) :: (K14ES b27 b6 b5 x lb B ld la A lc i Pz b4 b3 b2 b1)) w63 (by kernel_rfl) ?_
  rcases Bool.eq_false_or_eq_true (numOk u16) with fk45 | fk45
  rotate_left
  ·skip
   refine J.head (.bool true) (congrArg Value.bool (by rw [fk45]; rfl)) ?_
   have hbad := rd_bad hZ (by omega) (by rw [← e_u16]; exact fk45)
   have S221 : Sep w [rowOf Eng.encI lb ld 3 1 B, box b2 [iv 0, iv 0] 40, box b1 [.slice none 0 0] 24] w63 := S197.sub (.cons _ (.cons _ (.cons _ (.cons _ (.cons _ (.cons _ (.cons _ (.cons _ (.cons _ (.cons _ (.cons _ (.cons _ (.cons _ (.cons _ (.cons _ (.cons _ (.cons _ (.cons_cons _ (.cons _ (.cons _ (.cons _ (.cons_cons _ (.cons_cons _ (List.nil_sublist _))))))))))))))))))))))))
   clear S197
   refine J.run 2 K14_168 [(15, iv 9), (9, .slice lb B.length ld), (6, iv i), (3, pt b2), (2, pt b1)] w63 (by kernel_rfl) ?_
   obtain ⟨p25, hp25⟩ := row1_addr (S221.nth 0 rfl) (show 0 < (B).length by first | omega | (simp; omega))
   refine J.drawPlan (fun w_ => Sep w [rowOf Eng.encI lb ld 3 1 B, box b1 [.slice none 0 0] 24] w_) [(0, true), (1, true), (2, true), (3, true), (4, true), (5, true), (6, true), (7, true), (8, true), (9, false), (10, false), (11, true)] S221 Tryd.mixed (by kernel_rfl) (planOK_of (T := [(0, some 115, 0), (0, some 116, 64), (2, some 117, 83076749736557242056487941267521536), (0, some 118, 512), (0, some 119, 32768), (16, some 120, 664613997892457936451903530140172288), (40, some 121, 1661534994731144841129758825350430720), (64, some 122, 2658455991569831745807614120560689152), (132, some 123, 5483065482612777975728204123656421376), (1, none, 41538374868278621028243970633760772), (1023, none, 10633823966279326983230456482242756616), (2047, some 4, 0)]) (by kernel_rfl) (by kernel_rfl)) ?_
   intro w78 S222
   refine PB.mk (S222.erase 1) ?_
   refine PL.take 0 115 (.agg #[.slice none 0 0]) (fun _ _ => by kernel_rfl) ?_
   refine PL.take 1 116 (iv i) (fun _ _ => by kernel_rfl) ?_
   refine PL.take 2 117 (iv (IntKind.wrap .i64 (i + 1))) (fun _ _ => by kernel_rfl) ?_
   refine PL.head (iv (i + 1)) (congrArg (Value.int .i64) (IntWalk.i64_in _ (by omega))) ?_
   refine PL.take 3 118 (.slice lb B.length ld) (fun _ _ => by kernel_rfl) ?_
   refine PL.take 4 119 (iv 9) (fun _ _ => by kernel_rfl) ?_
   refine PL.take 5 120 (iv 10) (fun _ _ => by kernel_rfl) ?_
   refine PL.takeOK 6 (fun w_ S_ => OK.index 121 59 1 lb p25 B.length 10 10 (p25.add 10) (by kernel_rfl) (by kernel_rfl) hp25 (by omega) (by first | omega | (simp; omega)) (by rw [Nat.mul_one])) rfl ?_
   refine PL.takeOK 7 (fun w_ S_ => OK.ldCell 122 3 (p25.add 10) (iv (B.getD 10 0)) (by kernel_rfl) (by kernel_rfl) (row1_cell (g := (Value.int .i64)) S_ 0 rfl hp25 0 10 (by first | omega | (simp; omega)))) rfl ?_
   refine PL.take 8 123 (.agg #[iv (i + 1), iv (B.getD 10 0)]) (fun _ _ => by kernel_rfl) ?_
   refine PL.stBox S222 2 24 0 (.agg #[.slice none 0 0]) [.slice none 0 0] [rowOf Eng.encI lb ld 3 1 B, box b2 [iv 0, iv 0] 40, box b1 [.slice none 0 0] 24] (by kernel_rfl) rfl (by kernel_rfl) (by kernel_rfl) rfl ?_
   intro w79 S223
   refine PB.mk (S223.erase 1) ?_
   refine PL.stBox S223 1 40 0 (.agg #[iv (i + 1), iv (B.getD 10 0)]) [iv (i + 1), iv (B.getD 10 0)] [rowOf Eng.encI lb ld 3 1 B, box b2 [iv (i + 1), iv (B.getD 10 0)] 40, box b1 [.slice none 0 0] 24] (by kernel_rfl) rfl (by kernel_rfl) (by kernel_rfl) rfl ?_
   intro w80 S224
   refine PB.mk (S224.erase 1) ?_
   refine PL.take 11 4 (iv 3) (fun _ _ => by kernel_rfl) ?_
   refine PL.done ?_
   refine J.run 0 (rRest K14_168) [(4, iv 3), (3, pt b2), (2, pt b1)] w80 (by kernel_rfl) ?_
   refine J.ret Tryd.f14 [.agg #[.slice none 0 0], .agg #[iv (i + 1), iv (B.getD 10 0)], iv 3] Tryd.func14 ⟨⟨⟨b1, 0, none⟩, by kernel_rfl, ldV_run (S224.nth 2 rfl) (by kernel_rfl)⟩, ⟨⟨b2, 0, none⟩, by kernel_rfl, ldV_run (S224.nth 1 rfl) (by kernel_rfl)⟩, by kernel_rfl, trivial⟩ ?_
   refine hR _ _ ?_
   rw [show B.getD 10 0 = (L.getD 10 wd0).2 from by rw [hB]; exact snd_at L 10]
   exact bad_post (bad_line hQ h0 (by omega) hx1 hL (by omega) hZl hbad) S224
  refine J.head (.bool false) (congrArg Value.bool (by rw [fk45]; rfl)) ?_
  replace hZ : Z = rdS [] 0 (L.drop 11) ((x.size : Int) + 1) := rd_ok hZ (by omega) (by rw [← e_u16]; exact fk45)
  refine J.run 8 K14_155 ((97, iv 10) :: (96, iv ((A.length - 1 : Nat) : Int)) :: (95, .slice (subA la lc 1 1) (A.length - 1) (lc - 1)) :: (K14ES b27 b6 b5 x lb B ld la A lc i Pz b4 b3 b2 b1)) w63 (by kernel_rfl) ?_
  refine J.run 5 K14_156 ((98, .bool (decide (10 < ((A.length - 1 : Nat) : Int)))) :: (97, iv 10) :: (96, iv ((A.length - 1 : Nat) : Int)) :: (95, .slice (subA la lc 1 1) (A.length - 1) (lc - 1)) :: (K14ES b27 b6 b5 x lb B ld la A lc i Pz b4 b3 b2 b1)) w63 (by kernel_rfl) ?_
  by_cases fk46 : 10 < ((A.length - 1 : Nat) : Int)
  ·skip
   refine J.head (.bool true) (congrArg Value.bool (decide_eq_true fk46)) ?_
   have S198 : Sep w [rowOf (enc1 Value.string) la lc 9 1 A, rowOf Eng.encI lb ld 3 1 B, box b2 [iv 0, iv 0] 40, box b1 [.slice none 0 0] 24] w63 := S197.sub (.cons _ (.cons _ (.cons _ (.cons _ (.cons _ (.cons _ (.cons _ (.cons _ (.cons _ (.cons _ (.cons _ (.cons _ (.cons _ (.cons _ (.cons _ (.cons _ (.cons_cons _ (.cons_cons _ (.cons _ (.cons _ (.cons _ (.cons_cons _ (.cons_cons _ (List.nil_sublist _))))))))))))))))))))))))
   clear S197
   refine J.run 7 K14_157 ((99, iv 10) :: (97, iv 10) :: (96, iv ((A.length - 1 : Nat) : Int)) :: (95, .slice (subA la lc 1 1) (A.length - 1) (lc - 1)) :: (K14ES b27 b6 b5 x lb B ld la A lc i Pz b4 b3 b2 b1)) w63 (by kernel_rfl) ?_
   obtain ⟨p22, hp22, hc17⟩ := (ones_drop (row1_ones (S198.nth 0 rfl) _ rfl) lc 1 (by omega) (by omega)).at ByteArray.empty 10 (by omega)
   refine J.ok (OK.index 100 49 1 (subA la lc 1 1) p22 (A.length - 1) 10 10 (p22.add 10) (by kernel_rfl) (by kernel_rfl) hp22 (by omega) (by omega) (by rw [Nat.mul_one])) ?_
   refine J.ok (OK.ldCell 101 9 (p22.add 10) (.string ((A.drop 1).getD 10 ByteArray.empty)) (by kernel_rfl) (by kernel_rfl) hc17) ?_
   obtain ⟨u17, hu17⟩ : ∃ x : ByteArray, x = (A.drop 1).getD 10 ByteArray.empty := ⟨_, rfl⟩
   have e_u17 : u17 = wAt L 11 := by rw [hu17, hA]; exact fst_drop L 10
   have z_u17 : u17.size ≤ 1000000 := by rw [e_u17]; exact hws _
   refine J.head (.string u17) (congrArg Value.string hu17.symm) ?_
   refine J.run 21 K14_158 [(15, iv 10), (9, .slice lb B.length ld), (6, iv i), (3, pt b2), (2, pt b1)] w63 (by kernel_rfl) ?_
   obtain ⟨p23, hp23⟩ := row1_addr (S198.nth 1 rfl) (show 0 < (B).length by first | omega | (simp; omega))
   refine J.drawPlan (fun w_ => Sep w [rowOf (enc1 Value.string) la lc 9 1 A, rowOf Eng.encI lb ld 3 1 B, box b1 [.slice none 0 0] 24] w_) [(0, true), (1, true), (2, true), (3, true), (4, true), (5, true), (6, true), (7, true), (8, true), (9, false), (10, false), (11, true)] S198 Tryd.mixed (by kernel_rfl) (planOK_of (T := [(0, some 115, 0), (0, some 116, 64), (2, some 117, 83076749736557242056487941267521536), (0, some 118, 512), (0, some 119, 32768), (16, some 120, 664613997892457936451903530140172288), (40, some 121, 1661534994731144841129758825350430720), (64, some 122, 2658455991569831745807614120560689152), (132, some 123, 5483065482612777975728204123656421376), (1, none, 41538374868278621028243970633760772), (1023, none, 10633823966279326983230456482242756616), (2047, some 4, 0)]) (by kernel_rfl) (by kernel_rfl)) ?_
   intro w64 S199
   refine PB.mk (S199.erase 2) ?_
   refine PL.take 0 115 (.agg #[.slice none 0 0]) (fun _ _ => by kernel_rfl) ?_
   refine PL.take 1 116 (iv i) (fun _ _ => by kernel_rfl) ?_
   refine PL.take 2 117 (iv (IntKind.wrap .i64 (i + 1))) (fun _ _ => by kernel_rfl) ?_
   refine PL.head (iv (i + 1)) (congrArg (Value.int .i64) (IntWalk.i64_in _ (by omega))) ?_
   refine PL.take 3 118 (.slice lb B.length ld) (fun _ _ => by kernel_rfl) ?_
   refine PL.take 4 119 (iv 10) (fun _ _ => by kernel_rfl) ?_
   refine PL.take 5 120 (iv 11) (fun _ _ => by kernel_rfl) ?_
   refine PL.takeOK 6 (fun w_ S_ => OK.index 121 59 1 lb p23 B.length 11 11 (p23.add 11) (by kernel_rfl) (by kernel_rfl) hp23 (by omega) (by first | omega | (simp; omega)) (by rw [Nat.mul_one])) rfl ?_
   refine PL.takeOK 7 (fun w_ S_ => OK.ldCell 122 3 (p23.add 11) (iv (B.getD 11 0)) (by kernel_rfl) (by kernel_rfl) (row1_cell (g := (Value.int .i64)) S_ 1 rfl hp23 0 11 (by first | omega | (simp; omega)))) rfl ?_
   refine PL.take 8 123 (.agg #[iv (i + 1), iv (B.getD 11 0)]) (fun _ _ => by kernel_rfl) ?_
   refine PL.stBox S199 3 24 0 (.agg #[.slice none 0 0]) [.slice none 0 0] [rowOf (enc1 Value.string) la lc 9 1 A, rowOf Eng.encI lb ld 3 1 B, box b2 [iv 0, iv 0] 40, box b1 [.slice none 0 0] 24] (by kernel_rfl) rfl (by kernel_rfl) (by kernel_rfl) rfl ?_
   intro w65 S200
   refine PB.mk (S200.erase 2) ?_
   refine PL.stBox S200 2 40 0 (.agg #[iv (i + 1), iv (B.getD 11 0)]) [iv (i + 1), iv (B.getD 11 0)] [rowOf (enc1 Value.string) la lc 9 1 A, rowOf Eng.encI lb ld 3 1 B, box b2 [iv (i + 1), iv (B.getD 11 0)] 40, box b1 [.slice none 0 0] 24] (by kernel_rfl) rfl (by kernel_rfl) (by kernel_rfl) rfl ?_
   intro w66 S201
   refine PB.mk (S201.erase 2) ?_
   refine PL.take 11 4 (iv 3) (fun _ _ => by kernel_rfl) ?_
   refine PL.done ?_
   refine J.run 0 (rRest K14_158) [(4, iv 3), (3, pt b2), (2, pt b1)] w66 (by kernel_rfl) ?_
   refine J.ret Tryd.f14 [.agg #[.slice none 0 0], .agg #[iv (i + 1), iv (B.getD 11 0)], iv 3] Tryd.func14 ⟨⟨⟨b1, 0, none⟩, by kernel_rfl, ldV_run (S201.nth 3 rfl) (by kernel_rfl)⟩, ⟨⟨b2, 0, none⟩, by kernel_rfl, ldV_run (S201.nth 2 rfl) (by kernel_rfl)⟩, by kernel_rfl, trivial⟩ ?_
   refine hR _ _ ?_
   rw [show B.getD 11 0 = (L.getD 11 wd0).2 from by rw [hB]; exact snd_at L 11]
   exact bad_post (bad_line hQ h0 (by omega) hx1 hL (by omega) hZl (rd_more hZ (by omega))) S201
  refine J.head (.bool false) (congrArg Value.bool (decide_eq_false fk46)) ?_
  have S202 : Sep w (box b6 [.string u7, iv (parX u8), iv (parX u9), .bool (eqT u10 WMo), .bool (eqT u11 WSi), iv (parX u12), iv (parX u13), iv (parX u14), iv (parX u15), iv (parX u16)] 57 :: rowOf (enc1 Value.string) la lc 9 1 A :: rowOf frmE ra rc 34 5 out :: box b4 (Pz.map Value.string) 9 :: box b3 [.slice ra out.length rc] 24 :: box b2 [iv 0, iv 0] 40 :: box b1 [.slice none 0 0] 24 :: tlF out) w63 := S197.sub (.cons_cons _ (.cons _ (.cons _ (.cons _ (.cons _ (.cons _ (.cons _ (.cons _ (.cons _ (.cons _ (.cons _ (.cons _ (.cons _ (.cons _ (.cons _ (.cons _ (.cons_cons _ (.cons _ (.cons_cons _ (.cons_cons _ (.cons_cons _ (.cons_cons _ (.cons_cons _ (List.Sublist.refl _))))))))))))))))))))))))
  clear S197
  refine J.run 8 K14_159 ((127, iv (IntKind.wrap .i64 ((A.length : Int) - 1))) :: (13, .slice (some ⟨b27, 0, none⟩) 10 10) :: (14, iv 0) :: (12, pt b6) :: (11, pt b5) :: (10, iv ((x.size : Int) + 1)) :: (8, .slice la A.length lc) :: (6, iv i) :: (K14E0 i Pz b4 b3 b2 b1)) w63 (by kernel_rfl) ?_
  refine J.head (iv ((A.length : Int) - 1)) (congrArg (Value.int .i64) (IntWalk.i64_in _ (by omega))) ?_
  refine J.run 6 K14_160 ((132, .bool (decide (((A.length : Int) - 1) < 10))) :: (12, pt b6) :: (11, pt b5) :: (10, iv ((x.size : Int) + 1)) :: (8, .slice la A.length lc) :: (6, iv i) :: (K14E0 i Pz b4 b3 b2 b1)) w63 (by kernel_rfl) ?_
  have fk48 : ¬ (((A.length : Int) - 1) < 10) := by omega
  refine J.head (.bool false) (congrArg Value.bool (decide_eq_false fk48)) ?_
  refine J.run 5 K14_161 ((138, .slice la A.length lc) :: (12, pt b6) :: (11, pt b5) :: (K14E0 i Pz b4 b3 b2 b1)) w63 (by kernel_rfl) ?_
  refine J.ok (OK.index 139 49 1 la p2 A.length 0 0 (p2.add 0) (by kernel_rfl) (by kernel_rfl) hp2 (by omega) (by first | omega | (simp; omega)) (by rw [Nat.mul_one])) ?_
  refine J.ok (OK.ldCell 140 9 (p2.add 0) (.string (A.getD 0 ByteArray.empty)) (by kernel_rfl) (by kernel_rfl) (row1_cell (g := Value.string) S202 1 rfl hp2 ByteArray.empty 0 (by first | omega | (simp; omega)))) ?_
  refine J.head (.string u1) (congrArg Value.string hu1.symm) ?_
  refine J.run 2 K14_162 ((141, .bool (u1.toList == WFr.toList)) :: (12, pt b6) :: (11, pt b5) :: (K14E0 i Pz b4 b3 b2 b1)) w63 (by kernel_rfl) ?_
  refine J.head (.bool false) (congrArg Value.bool fk4) ?_
  refine J.run 4 K14_163 ((148, pt b3) :: (12, pt b6) :: (K14E0 i Pz b4 b3 b2 b1)) w63 (by kernel_rfl) ?_
  refine J.ok (OK.ldBox S202 4 149 22 0 (.slice ra out.length rc) (by kernel_rfl) rfl (by kernel_rfl)) ?_
  refine J.run 1 K14_164 ((150, pt b3) :: (149, .slice ra out.length rc) :: (12, pt b6) :: (K14E0 i Pz b4 b3 b2 b1)) w63 (by kernel_rfl) ?_
  refine J.ok (OK.ldBox S202 4 151 22 0 (.slice ra out.length rc) (by kernel_rfl) rfl (by kernel_rfl)) ?_
  refine J.run 2 K14_165 ((153, iv (IntKind.wrap .i64 ((out.length : Int) - 1))) :: (149, .slice ra out.length rc) :: (12, pt b6) :: (K14E0 i Pz b4 b3 b2 b1)) w63 (by kernel_rfl) ?_
  refine J.head (iv ((out.length : Int) - 1)) (congrArg (Value.int .i64) (IntWalk.i64_in _ (by omega))) ?_
  obtain ⟨p24, hp24, hc18⟩ := (rowOf_recs (S202.nth 2 rfl) _ rfl (fun _ => rfl) (by decide)).at frm0 ((out.length : Int) - 1).toNat (by omega)
  refine J.ok (OK.index 154 22 5 ra p24 out.length ((out.length : Int) - 1).toNat ((out.length : Int) - 1) (p24.add (((out.length : Int) - 1).toNat * 5)) (by kernel_rfl) (by kernel_rfl) hp24 (by omega) (by omega) rfl) ?_
  refine J.run 2 K14_166 ((17, .pointer (some (p24.add (((out.length : Int) - 1).toNat * 5)))) :: (12, pt b6) :: (K14E0 i Pz b4 b3 b2 b1)) w63 (by kernel_rfl) ?_
  have S203 : Sep w (box b6 [.string u7, iv (parX u8), iv (parX u9), .bool (eqT u10 WMo), .bool (eqT u11 WSi), iv (parX u12), iv (parX u13), iv (parX u14), iv (parX u15), iv (parX u16)] 57 :: rowOf (enc1 Value.string) la lc 9 1 A :: rowOf frmE ra rc 34 5 out :: box b4 (Pz.map Value.string) 9 :: box b3 [.slice ra out.length rc] 24 :: box b2 [iv 0, iv 0] 40 :: box b1 [.slice none 0 0] 24 :: rowOf sigE ((out.getD ((out.length : Int) - 1).toNat frm0).gSignals_a) ((out.getD ((out.length : Int) - 1).toNat frm0).gSignals_c) 57 10 ((out.getD ((out.length : Int) - 1).toNat frm0).gSignals_l) :: tlF out.dropLast) w63 := by rw [← tlF_lastI (show out.length ≠ 0 by omega)]; exact S202
  have hln := (all_last hof (show out.length ≠ 0 by omega)).1
  have hlb := all_last hsl (show out.length ≠ 0 by omega)
  have W1 : ∀ (ad7 : Option Addr) (cd7 : Nat) (w67 : World), Sep w (box b6 [.string u7, iv (parX u8), iv (parX u9), .bool (eqT u10 WMo), .bool (eqT u11 WSi), iv (parX u12), iv (parX u13), iv (parX u14), iv (parX u15), iv (parX u16)] 57 :: rowOf (enc1 Value.string) la lc 9 1 A :: rowOf frmE ra rc 34 5 (out.set (((out.length : Int) - 1).toNat) ({ (out.getD (((out.length : Int) - 1).toNat) frm0) with gSignals_a := ad7, gSignals_n := (((out.getD ((out.length : Int) - 1).toNat frm0).gSignals_l) ++ [(⟨u7, parX u8, parX u9, (eqT u10 WMo), (eqT u11 WSi), parX u12, parX u13, parX u14, parX u15, parX u16⟩ : Sig)]).length, gSignals_c := cd7, gSignals_l := ((out.getD ((out.length : Int) - 1).toNat frm0).gSignals_l) ++ [(⟨u7, parX u8, parX u9, (eqT u10 WMo), (eqT u11 WSi), parX u12, parX u13, parX u14, parX u15, parX u16⟩ : Sig)] } : Frm)) :: box b4 (Pz.map Value.string) 9 :: box b3 [.slice ra out.length rc] 24 :: box b2 [iv 0, iv 0] 40 :: box b1 [.slice none 0 0] 24 :: tlF (out.set (((out.length : Int) - 1).toNat) ({ (out.getD (((out.length : Int) - 1).toNat) frm0) with gSignals_a := ad7, gSignals_n := (((out.getD ((out.length : Int) - 1).toNat frm0).gSignals_l) ++ [(⟨u7, parX u8, parX u9, (eqT u10 WMo), (eqT u11 WSi), parX u12, parX u13, parX u14, parX u15, parX u16⟩ : Sig)]).length, gSignals_c := cd7, gSignals_l := ((out.getD ((out.length : Int) - 1).toNat frm0).gSignals_l) ++ [(⟨u7, parX u8, parX u9, (eqT u10 WMo), (eqT u11 WSi), parX u12, parX u13, parX u14, parX u15, parX u16⟩ : Sig)] } : Frm))) w67 → WA Tryd.prog 14 178 R K14_166 (fun w_ => Sep w [box b6 [.string u7, iv (parX u8), iv (parX u9), .bool (eqT u10 WMo), .bool (eqT u11 WSi), iv (parX u12), iv (parX u13), iv (parX u14), iv (parX u15), iv (parX u16)] 57, rowOf (enc1 Value.string) la lc 9 1 A, box b4 (Pz.map Value.string) 9, box b3 [.slice ra out.length rc] 24, box b2 [iv 0, iv 0] 40, box b1 [.slice none 0 0] 24] w_) 0 #[true, true, true, true, true, true, true, true, true, true, true] [(2, pt b1), (3, pt b2), (5, pt b3), (26, .slice (some ⟨b4, 0, none⟩) Pz.length Pz.length), (27, iv (Pz.length : Int)), (28, iv i)] w67 := by
   intro ad7 cd7 w67 S204
   refine WA.done (by kernel_rfl) ?_
   refine J.run 0 (rRest K14_166) [(2, pt b1), (3, pt b2), (5, pt b3), (26, .slice (some ⟨b4, 0, none⟩) Pz.length Pz.length), (27, iv (Pz.length : Int)), (28, iv i)] w67 (by kernel_rfl) ?_
   refine J.run 3 K14_167 [(165, iv (IntKind.wrap .i64 (i + 1))), (2, pt b1), (3, pt b2), (5, pt b3), (26, .slice (some ⟨b4, 0, none⟩) Pz.length Pz.length), (27, iv (Pz.length : Int))] w67 (by kernel_rfl) ?_
   refine J.head (iv (i + 1)) (congrArg (Value.int .i64) (IntWalk.i64_in _ (by omega))) ?_
   refine J.run 3 K14_6 [(28, iv (i + 1)), (2, pt b1), (3, pt b2), (5, pt b3), (26, .slice (some ⟨b4, 0, none⟩) Pz.length Pz.length), (27, iv (Pz.length : Int))] w67 (by kernel_rfl) ?_
   have S205 : Sep w (box b6 [.string u7, iv (parX u8), iv (parX u9), .bool (eqT u10 WMo), .bool (eqT u11 WSi), iv (parX u12), iv (parX u13), iv (parX u14), iv (parX u15), iv (parX u16)] 57 :: rowOf frmE ra rc 34 5 (out.set (((out.length : Int) - 1).toNat) ({ (out.getD (((out.length : Int) - 1).toNat) frm0) with gSignals_a := ad7, gSignals_n := (((out.getD ((out.length : Int) - 1).toNat frm0).gSignals_l) ++ [(⟨u7, parX u8, parX u9, (eqT u10 WMo), (eqT u11 WSi), parX u12, parX u13, parX u14, parX u15, parX u16⟩ : Sig)]).length, gSignals_c := cd7, gSignals_l := ((out.getD ((out.length : Int) - 1).toNat frm0).gSignals_l) ++ [(⟨u7, parX u8, parX u9, (eqT u10 WMo), (eqT u11 WSi), parX u12, parX u13, parX u14, parX u15, parX u16⟩ : Sig)] } : Frm)) :: box b4 (Pz.map Value.string) 9 :: box b3 [.slice ra out.length rc] 24 :: box b2 [iv 0, iv 0] 40 :: box b1 [.slice none 0 0] 24 :: tlF (out.set (((out.length : Int) - 1).toNat) ({ (out.getD (((out.length : Int) - 1).toNat) frm0) with gSignals_a := ad7, gSignals_n := (((out.getD ((out.length : Int) - 1).toNat frm0).gSignals_l) ++ [(⟨u7, parX u8, parX u9, (eqT u10 WMo), (eqT u11 WSi), parX u12, parX u13, parX u14, parX u15, parX u16⟩ : Sig)]).length, gSignals_c := cd7, gSignals_l := ((out.getD ((out.length : Int) - 1).toNat frm0).gSignals_l) ++ [(⟨u7, parX u8, parX u9, (eqT u10 WMo), (eqT u11 WSi), parX u12, parX u13, parX u14, parX u15, parX u16⟩ : Sig)] } : Frm))) w67 := S204.erase 1
   clear S204
   have S206 : Sep w (rowOf frmE ra rc 34 5 (out.set (((out.length : Int) - 1).toNat) ({ (out.getD (((out.length : Int) - 1).toNat) frm0) with gSignals_a := ad7, gSignals_n := (((out.getD ((out.length : Int) - 1).toNat frm0).gSignals_l) ++ [(⟨u7, parX u8, parX u9, (eqT u10 WMo), (eqT u11 WSi), parX u12, parX u13, parX u14, parX u15, parX u16⟩ : Sig)]).length, gSignals_c := cd7, gSignals_l := ((out.getD ((out.length : Int) - 1).toNat frm0).gSignals_l) ++ [(⟨u7, parX u8, parX u9, (eqT u10 WMo), (eqT u11 WSi), parX u12, parX u13, parX u14, parX u15, parX u16⟩ : Sig)] } : Frm)) :: box b4 (Pz.map Value.string) 9 :: box b3 [.slice ra out.length rc] 24 :: box b2 [iv 0, iv 0] 40 :: box b1 [.slice none 0 0] 24 :: tlF (out.set (((out.length : Int) - 1).toNat) ({ (out.getD (((out.length : Int) - 1).toNat) frm0) with gSignals_a := ad7, gSignals_n := (((out.getD ((out.length : Int) - 1).toNat frm0).gSignals_l) ++ [(⟨u7, parX u8, parX u9, (eqT u10 WMo), (eqT u11 WSi), parX u12, parX u13, parX u14, parX u15, parX u16⟩ : Sig)]).length, gSignals_c := cd7, gSignals_l := ((out.getD ((out.length : Int) - 1).toNat frm0).gSignals_l) ++ [(⟨u7, parX u8, parX u9, (eqT u10 WMo), (eqT u11 WSi), parX u12, parX u13, parX u14, parX u15, parX u16⟩ : Sig)] } : Frm))) w67 := S205.erase 0
   clear S205
   have S207 : Sep w (rowOf frmE ra rc 34 5 (out.set (((out.length : Int) - 1).toNat) ({ (out.getD (((out.length : Int) - 1).toNat) frm0) with gSignals_a := ad7, gSignals_n := (((out.getD ((out.length : Int) - 1).toNat frm0).gSignals_l) ++ [(⟨u7, parX u8, parX u9, (eqT u10 WMo), (eqT u11 WSi), parX u12, parX u13, parX u14, parX u15, parX u16⟩ : Sig)]).length, gSignals_c := cd7, gSignals_l := ((out.getD ((out.length : Int) - 1).toNat frm0).gSignals_l) ++ [(⟨u7, parX u8, parX u9, (eqT u10 WMo), (eqT u11 WSi), parX u12, parX u13, parX u14, parX u15, parX u16⟩ : Sig)] } : Frm)) :: box b4 (Pz.map Value.string) 9 :: box b3 [.slice ra ((out.set (((out.length : Int) - 1).toNat) ({ (out.getD (((out.length : Int) - 1).toNat) frm0) with gSignals_a := ad7, gSignals_n := (((out.getD ((out.length : Int) - 1).toNat frm0).gSignals_l) ++ [(⟨u7, parX u8, parX u9, (eqT u10 WMo), (eqT u11 WSi), parX u12, parX u13, parX u14, parX u15, parX u16⟩ : Sig)]).length, gSignals_c := cd7, gSignals_l := ((out.getD ((out.length : Int) - 1).toNat frm0).gSignals_l) ++ [(⟨u7, parX u8, parX u9, (eqT u10 WMo), (eqT u11 WSi), parX u12, parX u13, parX u14, parX u15, parX u16⟩ : Sig)] } : Frm)).length) rc] 24 :: box b2 [iv 0, iv 0] 40 :: box b1 [.slice none 0 0] 24 :: tlF (out.set (((out.length : Int) - 1).toNat) ({ (out.getD (((out.length : Int) - 1).toNat) frm0) with gSignals_a := ad7, gSignals_n := (((out.getD ((out.length : Int) - 1).toNat frm0).gSignals_l) ++ [(⟨u7, parX u8, parX u9, (eqT u10 WMo), (eqT u11 WSi), parX u12, parX u13, parX u14, parX u15, parX u16⟩ : Sig)]).length, gSignals_c := cd7, gSignals_l := ((out.getD ((out.length : Int) - 1).toNat frm0).gSignals_l) ++ [(⟨u7, parX u8, parX u9, (eqT u10 WMo), (eqT u11 WSi), parX u12, parX u13, parX u14, parX u15, parX u16⟩ : Sig)] } : Frm))) w67 := by rw [List.length_set]; exact S206
   clear S206
   refine J.run 0 K14_6 [(28, iv (i + 1)), (27, iv (Pz.length : Int)), (26, .slice (some ⟨b4, 0, none⟩) Pz.length Pz.length), (5, pt b3), (3, pt b2), (2, pt b1)] w67 (by kernel_rfl) ?_
   exact ih1 _ (show ((Pz.length : Int) - (i + 1)).toNat < mm1 from by omega) ra rc (out.set (((out.length : Int) - 1).toNat) ({ (out.getD (((out.length : Int) - 1).toNat) frm0) with gSignals_a := ad7, gSignals_n := (((out.getD ((out.length : Int) - 1).toNat frm0).gSignals_l) ++ [(⟨u7, parX u8, parX u9, (eqT u10 WMo), (eqT u11 WSi), parX u12, parX u13, parX u14, parX u15, parX u16⟩ : Sig)]).length, gSignals_c := cd7, gSignals_l := ((out.getD ((out.length : Int) - 1).toNat frm0).gSignals_l) ++ [(⟨u7, parX u8, parX u9, (eqT u10 WMo), (eqT u11 WSi), parX u12, parX u13, parX u14, parX u15, parX u16⟩ : Sig)] } : Frm)) (i + 1) w67 (by omega) (by omega) (by first | omega | (rw [List.length_append, List.length_singleton]; omega) | (rw [List.length_set]; omega)) (all_set hof (okF_add (all_last hof (by omega)) (okG_of (by omega) _ _ (px _) (px _) (px _) (px _) (px _) (px _) (px _)) _ _) _) (all_set (Q := fun y => (y.gSignals_l.length : Int) ≤ i + 1) (fun y hy => Int.le_trans (hsl y hy) (by omega)) (by show ((_ ++ [_] : List Sig).length : Int) ≤ i + 1; rw [List.length_append, List.length_singleton]; omega) _) ((good_line hQ h0 (by omega) hx1 hL (by omega) hZl (rd_end hZ (by omega) (by decide))).trans (by rw [sg_add (x := ({ (out.getD (((out.length : Int) - 1).toNat) frm0) with gSignals_a := ad7, gSignals_n := (((out.getD ((out.length : Int) - 1).toNat frm0).gSignals_l) ++ [(⟨u7, parX u8, parX u9, (eqT u10 WMo), (eqT u11 WSi), parX u12, parX u13, parX u14, parX u15, parX u16⟩ : Sig)]).length, gSignals_c := cd7, gSignals_l := ((out.getD ((out.length : Int) - 1).toNat frm0).gSignals_l) ++ [(⟨u7, parX u8, parX u9, (eqT u10 WMo), (eqT u11 WSi), parX u12, parX u13, parX u14, parX u15, parX u16⟩ : Sig)] } : Frm)) hkF (by omega) (cl_add (y := (⟨u7, parX u8, parX u9, (eqT u10 WMo), (eqT u11 WSi), parX u12, parX u13, parX u14, parX u15, parX u16⟩ : Sig)) (by rw [e_u7, e_u8, e_u9, e_u10, e_u11, e_u12, e_u13, e_u14, e_u15, e_u16]; rfl) _ _)])) S207 rfl
  have W2 : ∀ (ad7 : Option Addr) (cd7 : Nat) (w68 : World), Sep w (box b6 [.string u7, iv (parX u8), iv (parX u9), .bool (eqT u10 WMo), .bool (eqT u11 WSi), iv (parX u12), iv (parX u13), iv (parX u14), iv (parX u15), iv (parX u16)] 57 :: rowOf (enc1 Value.string) la lc 9 1 A :: rowOf frmE ra rc 34 5 out :: box b4 (Pz.map Value.string) 9 :: box b3 [.slice ra out.length rc] 24 :: box b2 [iv 0, iv 0] 40 :: box b1 [.slice none 0 0] 24 :: rowOf sigE ad7 cd7 57 10 (((out.getD ((out.length : Int) - 1).toNat frm0).gSignals_l) ++ [(⟨u7, parX u8, parX u9, (eqT u10 WMo), (eqT u11 WSi), parX u12, parX u13, parX u14, parX u15, parX u16⟩ : Sig)]) :: tlF out.dropLast) w68 → WA Tryd.prog 14 178 R K14_166 (fun w_ => Sep w [box b6 [.string u7, iv (parX u8), iv (parX u9), .bool (eqT u10 WMo), .bool (eqT u11 WSi), iv (parX u12), iv (parX u13), iv (parX u14), iv (parX u15), iv (parX u16)] 57, rowOf (enc1 Value.string) la lc 9 1 A, box b4 (Pz.map Value.string) 9, box b3 [.slice ra out.length rc] 24, box b2 [iv 0, iv 0] 40, box b1 [.slice none 0 0] 24] w_) 1 #[true, true, true, true, true, true, true, true, true, true, false] [(2, pt b1), (3, pt b2), (5, pt b3), (26, .slice (some ⟨b4, 0, none⟩) Pz.length Pz.length), (27, iv (Pz.length : Int)), (28, iv i), (162, .slice ad7 ((((out.getD ((out.length : Int) - 1).toNat frm0).gSignals_l) ++ [(⟨u7, parX u8, parX u9, (eqT u10 WMo), (eqT u11 WSi), parX u12, parX u13, parX u14, parX u15, parX u16⟩ : Sig)]).length) cd7), (164, .pointer (some ((p24.add (((out.length : Int) - 1).toNat * 5)).add 4)))] w68 := by
   intro ad7 cd7 w68 S208
   refine WA.all [10] (by kernel_rfl) rfl ⟨?_, trivial⟩
   refine WO.set #[true, true, true, true, true, true, true, true, true, true, true] (by kernel_rfl) ?_
   refine WO.stRowF S208 2 5 out 32 ((p24.add (((out.length : Int) - 1).toNat * 5)).add 4) p24 (((out.length : Int) - 1).toNat) 4 (out.getD (((out.length : Int) - 1).toNat) frm0) ({ (out.getD (((out.length : Int) - 1).toNat) frm0) with gSignals_a := ad7, gSignals_n := (((out.getD ((out.length : Int) - 1).toNat frm0).gSignals_l) ++ [(⟨u7, parX u8, parX u9, (eqT u10 WMo), (eqT u11 WSi), parX u12, parX u13, parX u14, parX u15, parX u16⟩ : Sig)]).length, gSignals_c := cd7, gSignals_l := ((out.getD ((out.length : Int) - 1).toNat frm0).gSignals_l) ++ [(⟨u7, parX u8, parX u9, (eqT u10 WMo), (eqT u11 WSi), parX u12, parX u13, parX u14, parX u15, parX u16⟩ : Sig)] } : Frm) (.slice ad7 ((((out.getD ((out.length : Int) - 1).toNat frm0).gSignals_l) ++ [(⟨u7, parX u8, parX u9, (eqT u10 WMo), (eqT u11 WSi), parX u12, parX u13, parX u14, parX u15, parX u16⟩ : Sig)]).length) cd7) rfl (by kernel_rfl) rfl hp24 (getD_some (by first | omega | (simp; omega))) (fun _ _ => rfl) (by decide) rfl rfl rfl (by kernel_rfl) ?_
   intro w69 S209
   replace S209 : Sep w (box b6 [.string u7, iv (parX u8), iv (parX u9), .bool (eqT u10 WMo), .bool (eqT u11 WSi), iv (parX u12), iv (parX u13), iv (parX u14), iv (parX u15), iv (parX u16)] 57 :: rowOf (enc1 Value.string) la lc 9 1 A :: rowOf frmE ra rc 34 5 (out.set (((out.length : Int) - 1).toNat) ({ (out.getD (((out.length : Int) - 1).toNat) frm0) with gSignals_a := ad7, gSignals_n := (((out.getD ((out.length : Int) - 1).toNat frm0).gSignals_l) ++ [(⟨u7, parX u8, parX u9, (eqT u10 WMo), (eqT u11 WSi), parX u12, parX u13, parX u14, parX u15, parX u16⟩ : Sig)]).length, gSignals_c := cd7, gSignals_l := ((out.getD ((out.length : Int) - 1).toNat frm0).gSignals_l) ++ [(⟨u7, parX u8, parX u9, (eqT u10 WMo), (eqT u11 WSi), parX u12, parX u13, parX u14, parX u15, parX u16⟩ : Sig)] } : Frm)) :: box b4 (Pz.map Value.string) 9 :: box b3 [.slice ra out.length rc] 24 :: box b2 [iv 0, iv 0] 40 :: box b1 [.slice none 0 0] 24 :: rowOf sigE ad7 cd7 57 10 (((out.getD ((out.length : Int) - 1).toNat frm0).gSignals_l) ++ [(⟨u7, parX u8, parX u9, (eqT u10 WMo), (eqT u11 WSi), parX u12, parX u13, parX u14, parX u15, parX u16⟩ : Sig)]) :: tlF out.dropLast) w69 := S209
   have S210 := S209.front 7 rfl
   have S211 : Sep w (box b6 [.string u7, iv (parX u8), iv (parX u9), .bool (eqT u10 WMo), .bool (eqT u11 WSi), iv (parX u12), iv (parX u13), iv (parX u14), iv (parX u15), iv (parX u16)] 57 :: rowOf (enc1 Value.string) la lc 9 1 A :: rowOf frmE ra rc 34 5 (out.set (((out.length : Int) - 1).toNat) ({ (out.getD (((out.length : Int) - 1).toNat) frm0) with gSignals_a := ad7, gSignals_n := (((out.getD ((out.length : Int) - 1).toNat frm0).gSignals_l) ++ [(⟨u7, parX u8, parX u9, (eqT u10 WMo), (eqT u11 WSi), parX u12, parX u13, parX u14, parX u15, parX u16⟩ : Sig)]).length, gSignals_c := cd7, gSignals_l := ((out.getD ((out.length : Int) - 1).toNat frm0).gSignals_l) ++ [(⟨u7, parX u8, parX u9, (eqT u10 WMo), (eqT u11 WSi), parX u12, parX u13, parX u14, parX u15, parX u16⟩ : Sig)] } : Frm)) :: box b4 (Pz.map Value.string) 9 :: box b3 [.slice ra out.length rc] 24 :: box b2 [iv 0, iv 0] 40 :: box b1 [.slice none 0 0] 24 :: tlF (out.set (((out.length : Int) - 1).toNat) ({ (out.getD (((out.length : Int) - 1).toNat) frm0) with gSignals_a := ad7, gSignals_n := (((out.getD ((out.length : Int) - 1).toNat frm0).gSignals_l) ++ [(⟨u7, parX u8, parX u9, (eqT u10 WMo), (eqT u11 WSi), parX u12, parX u13, parX u14, parX u15, parX u16⟩ : Sig)]).length, gSignals_c := cd7, gSignals_l := ((out.getD ((out.length : Int) - 1).toNat frm0).gSignals_l) ++ [(⟨u7, parX u8, parX u9, (eqT u10 WMo), (eqT u11 WSi), parX u12, parX u13, parX u14, parX u15, parX u16⟩ : Sig)] } : Frm))) w69 := by rw [tlF_set (show out.length ≠ 0 by omega)]; exact S210.back 7
   refine WB.mk (S211.sub (.cons_cons _ (.cons_cons _ (.cons _ (.cons_cons _ (.cons_cons _ (.cons_cons _ (.cons_cons _ (List.nil_sublist _))))))))) ?_
   refine WA.weaken (env' := [(2, pt b1), (3, pt b2), (5, pt b3), (26, .slice (some ⟨b4, 0, none⟩) Pz.length Pz.length), (27, iv (Pz.length : Int)), (28, iv i)]) (by kernel_rfl) ?_
   exact W1 ad7 cd7 w69 S211
  have W3 : ∀ (bd6 : Nat) (w70 : World), Sep w (box bd6 [.string u7, iv (parX u8), iv (parX u9), .bool (eqT u10 WMo), .bool (eqT u11 WSi), iv (parX u12), iv (parX u13), iv (parX u14), iv (parX u15), iv (parX u16)] 57 :: box b6 [.string u7, iv (parX u8), iv (parX u9), .bool (eqT u10 WMo), .bool (eqT u11 WSi), iv (parX u12), iv (parX u13), iv (parX u14), iv (parX u15), iv (parX u16)] 57 :: rowOf (enc1 Value.string) la lc 9 1 A :: rowOf frmE ra rc 34 5 out :: box b4 (Pz.map Value.string) 9 :: box b3 [.slice ra out.length rc] 24 :: box b2 [iv 0, iv 0] 40 :: box b1 [.slice none 0 0] 24 :: rowOf sigE ((out.getD ((out.length : Int) - 1).toNat frm0).gSignals_a) ((out.getD ((out.length : Int) - 1).toNat frm0).gSignals_c) 57 10 ((out.getD ((out.length : Int) - 1).toNat frm0).gSignals_l) :: tlF out.dropLast) w70 → WA Tryd.prog 14 178 R K14_166 (fun w_ => Sep w [box b6 [.string u7, iv (parX u8), iv (parX u9), .bool (eqT u10 WMo), .bool (eqT u11 WSi), iv (parX u12), iv (parX u13), iv (parX u14), iv (parX u15), iv (parX u16)] 57, rowOf (enc1 Value.string) la lc 9 1 A, box b4 (Pz.map Value.string) 9, box b3 [.slice ra out.length rc] 24, box b2 [iv 0, iv 0] 40, box b1 [.slice none 0 0] 24] w_) 4 #[true, true, true, true, true, true, true, false, false, false, false] [(2, pt b1), (3, pt b2), (5, pt b3), (26, .slice (some ⟨b4, 0, none⟩) Pz.length Pz.length), (27, iv (Pz.length : Int)), (28, iv i), (155, .pointer (some (p24.add (((out.length : Int) - 1).toNat * 5)))), (159, .slice ((out.getD ((out.length : Int) - 1).toNat frm0).gSignals_a) ((out.getD ((out.length : Int) - 1).toNat frm0).gSignals_l.length) ((out.getD ((out.length : Int) - 1).toNat frm0).gSignals_c)), (161, .slice (some ⟨bd6, 0, none⟩) 1 1)] w70 := by
   intro bd6 w70 S212
   refine WA.all [7] (by kernel_rfl) rfl ⟨?_, trivial⟩
   refine WO.set #[true, true, true, true, true, true, true, true, false, false, false] (by kernel_rfl) ?_
   refine WO.append sigE S212 8 ((out.getD ((out.length : Int) - 1).toNat frm0).gSignals_l) (⟨u7, parX u8, parX u9, (eqT u10 WMo), (eqT u11 WSi), parX u12, parX u13, parX u14, parX u15, parX u16⟩ : Sig) 162 32 (.agg #[.string ByteArray.empty, iv 0, iv 0, .bool false, .bool false, iv 0, iv 0, iv 0, iv 0, iv 0]) 80 ⟨bd6, 0, none⟩ 1 rfl (by kernel_rfl) (by kernel_rfl) (by kernel_rfl) (by kernel_rfl) (by decide) (box_cells (S212.nth 0 rfl)) (by kernel_rfl) (by kernel_rfl) (⟨by omega, by omega⟩) ?_
   intro ad7 cd7 w71 S213
   replace S213 : Sep w (box bd6 [.string u7, iv (parX u8), iv (parX u9), .bool (eqT u10 WMo), .bool (eqT u11 WSi), iv (parX u12), iv (parX u13), iv (parX u14), iv (parX u15), iv (parX u16)] 57 :: box b6 [.string u7, iv (parX u8), iv (parX u9), .bool (eqT u10 WMo), .bool (eqT u11 WSi), iv (parX u12), iv (parX u13), iv (parX u14), iv (parX u15), iv (parX u16)] 57 :: rowOf (enc1 Value.string) la lc 9 1 A :: rowOf frmE ra rc 34 5 out :: box b4 (Pz.map Value.string) 9 :: box b3 [.slice ra out.length rc] 24 :: box b2 [iv 0, iv 0] 40 :: box b1 [.slice none 0 0] 24 :: rowOf sigE ad7 cd7 57 10 (((out.getD ((out.length : Int) - 1).toNat frm0).gSignals_l) ++ [(⟨u7, parX u8, parX u9, (eqT u10 WMo), (eqT u11 WSi), parX u12, parX u13, parX u14, parX u15, parX u16⟩ : Sig)]) :: tlF out.dropLast) w71 := S213
   have S214 : Sep w (box b6 [.string u7, iv (parX u8), iv (parX u9), .bool (eqT u10 WMo), .bool (eqT u11 WSi), iv (parX u12), iv (parX u13), iv (parX u14), iv (parX u15), iv (parX u16)] 57 :: rowOf (enc1 Value.string) la lc 9 1 A :: rowOf frmE ra rc 34 5 out :: box b4 (Pz.map Value.string) 9 :: box b3 [.slice ra out.length rc] 24 :: box b2 [iv 0, iv 0] 40 :: box b1 [.slice none 0 0] 24 :: rowOf sigE ad7 cd7 57 10 (((out.getD ((out.length : Int) - 1).toNat frm0).gSignals_l) ++ [(⟨u7, parX u8, parX u9, (eqT u10 WMo), (eqT u11 WSi), parX u12, parX u13, parX u14, parX u15, parX u16⟩ : Sig)]) :: tlF out.dropLast) w71 := S213.erase 0
   clear S213
   refine WB.mk (S214.sub (.cons_cons _ (.cons_cons _ (.cons _ (.cons_cons _ (.cons_cons _ (.cons_cons _ (.cons_cons _ (List.nil_sublist _))))))))) ?_
   refine WA.take 8 163 (.pointer (some (p24.add (((out.length : Int) - 1).toNat * 5)))) #[true, true, true, true, true, true, true, true, true, false, false] (by kernel_rfl) (by kernel_rfl) (by kernel_rfl) (fun _ _ => by kernel_rfl) (by kernel_rfl) ?_
   refine WA.take 9 164 (.pointer (some ((p24.add (((out.length : Int) - 1).toNat * 5)).add 4))) #[true, true, true, true, true, true, true, true, true, true, false] (by kernel_rfl) (by kernel_rfl) (by kernel_rfl) (fun _ _ => by kernel_rfl) (by kernel_rfl) ?_
   refine WA.weaken (env' := [(2, pt b1), (3, pt b2), (5, pt b3), (26, .slice (some ⟨b4, 0, none⟩) Pz.length Pz.length), (27, iv (Pz.length : Int)), (28, iv i), (162, .slice ad7 ((((out.getD ((out.length : Int) - 1).toNat frm0).gSignals_l) ++ [(⟨u7, parX u8, parX u9, (eqT u10 WMo), (eqT u11 WSi), parX u12, parX u13, parX u14, parX u15, parX u16⟩ : Sig)]).length) cd7), (164, .pointer (some ((p24.add (((out.length : Int) - 1).toNat * 5)).add 4)))]) (by kernel_rfl) ?_
   exact W2 ad7 cd7 w71 S214
  have W4 : ∀ (w72 : World), Sep w (box b6 [.string u7, iv (parX u8), iv (parX u9), .bool (eqT u10 WMo), .bool (eqT u11 WSi), iv (parX u12), iv (parX u13), iv (parX u14), iv (parX u15), iv (parX u16)] 57 :: rowOf (enc1 Value.string) la lc 9 1 A :: rowOf frmE ra rc 34 5 out :: box b4 (Pz.map Value.string) 9 :: box b3 [.slice ra out.length rc] 24 :: box b2 [iv 0, iv 0] 40 :: box b1 [.slice none 0 0] 24 :: rowOf sigE ((out.getD ((out.length : Int) - 1).toNat frm0).gSignals_a) ((out.getD ((out.length : Int) - 1).toNat frm0).gSignals_c) 57 10 ((out.getD ((out.length : Int) - 1).toNat frm0).gSignals_l) :: tlF out.dropLast) w72 → WA Tryd.prog 14 178 R K14_166 (fun w_ => Sep w [box b6 [.string u7, iv (parX u8), iv (parX u9), .bool (eqT u10 WMo), .bool (eqT u11 WSi), iv (parX u12), iv (parX u13), iv (parX u14), iv (parX u15), iv (parX u16)] 57, rowOf (enc1 Value.string) la lc 9 1 A, box b4 (Pz.map Value.string) 9, box b3 [.slice ra out.length rc] 24, box b2 [iv 0, iv 0] 40, box b1 [.slice none 0 0] 24] w_) 5 #[true, true, true, true, true, true, false, false, false, false, false] [(2, pt b1), (3, pt b2), (5, pt b3), (26, .slice (some ⟨b4, 0, none⟩) Pz.length Pz.length), (27, iv (Pz.length : Int)), (28, iv i), (155, .pointer (some (p24.add (((out.length : Int) - 1).toNat * 5)))), (159, .slice ((out.getD ((out.length : Int) - 1).toNat frm0).gSignals_a) ((out.getD ((out.length : Int) - 1).toNat frm0).gSignals_l.length) ((out.getD ((out.length : Int) - 1).toNat frm0).gSignals_c)), (160, .agg #[.string u7, iv (parX u8), iv (parX u9), .bool (eqT u10 WMo), .bool (eqT u11 WSi), iv (parX u12), iv (parX u13), iv (parX u14), iv (parX u15), iv (parX u16)])] w72 := by
   intro w72 S215
   refine WA.all [6] (by kernel_rfl) rfl ⟨?_, trivial⟩
   refine WO.set #[true, true, true, true, true, true, true, false, false, false, false] (by kernel_rfl) ?_
   refine WO.newSlice S215 161 1 [.string u7, iv (parX u8), iv (parX u9), .bool (eqT u10 WMo), .bool (eqT u11 WSi), iv (parX u12), iv (parX u13), iv (parX u14), iv (parX u15), iv (parX u16)] 57 (by kernel_rfl) ?_
   intro bd6 w73 S216
   refine WB.mk (S216.sub (.cons _ (.cons_cons _ (.cons_cons _ (.cons _ (.cons_cons _ (.cons_cons _ (.cons_cons _ (.cons_cons _ (List.nil_sublist _)))))))))) ?_
   refine WA.weaken (env' := [(2, pt b1), (3, pt b2), (5, pt b3), (26, .slice (some ⟨b4, 0, none⟩) Pz.length Pz.length), (27, iv (Pz.length : Int)), (28, iv i), (155, .pointer (some (p24.add (((out.length : Int) - 1).toNat * 5)))), (159, .slice ((out.getD ((out.length : Int) - 1).toNat frm0).gSignals_a) ((out.getD ((out.length : Int) - 1).toNat frm0).gSignals_l.length) ((out.getD ((out.length : Int) - 1).toNat frm0).gSignals_c)), (161, .slice (some ⟨bd6, 0, none⟩) 1 1)]) (by kernel_rfl) ?_
   exact W3 bd6 w73 S216
  have W5 : ∀ (bd6 : Nat) (w74 : World), Sep w (box bd6 [.string u7, iv (parX u8), iv (parX u9), .bool (eqT u10 WMo), .bool (eqT u11 WSi), iv (parX u12), iv (parX u13), iv (parX u14), iv (parX u15), iv (parX u16)] 57 :: box b6 [.string u7, iv (parX u8), iv (parX u9), .bool (eqT u10 WMo), .bool (eqT u11 WSi), iv (parX u12), iv (parX u13), iv (parX u14), iv (parX u15), iv (parX u16)] 57 :: rowOf (enc1 Value.string) la lc 9 1 A :: rowOf frmE ra rc 34 5 out :: box b4 (Pz.map Value.string) 9 :: box b3 [.slice ra out.length rc] 24 :: box b2 [iv 0, iv 0] 40 :: box b1 [.slice none 0 0] 24 :: rowOf sigE ((out.getD ((out.length : Int) - 1).toNat frm0).gSignals_a) ((out.getD ((out.length : Int) - 1).toNat frm0).gSignals_c) 57 10 ((out.getD ((out.length : Int) - 1).toNat frm0).gSignals_l) :: tlF out.dropLast) w74 → WA Tryd.prog 14 178 R K14_166 (fun w_ => Sep w [box b6 [.string u7, iv (parX u8), iv (parX u9), .bool (eqT u10 WMo), .bool (eqT u11 WSi), iv (parX u12), iv (parX u13), iv (parX u14), iv (parX u15), iv (parX u16)] 57, rowOf (enc1 Value.string) la lc 9 1 A, box b4 (Pz.map Value.string) 9, box b3 [.slice ra out.length rc] 24, box b2 [iv 0, iv 0] 40, box b1 [.slice none 0 0] 24] w_) 5 #[true, true, true, true, false, true, true, false, false, false, false] [(2, pt b1), (3, pt b2), (5, pt b3), (26, .slice (some ⟨b4, 0, none⟩) Pz.length Pz.length), (27, iv (Pz.length : Int)), (28, iv i), (155, .pointer (some (p24.add (((out.length : Int) - 1).toNat * 5)))), (158, .pointer (some ((p24.add (((out.length : Int) - 1).toNat * 5)).add 4))), (161, .slice (some ⟨bd6, 0, none⟩) 1 1)] w74 := by
   intro bd6 w74 S217
   refine WA.all [4] (by kernel_rfl) rfl ⟨?_, trivial⟩
   refine WO.set #[true, true, true, true, true, true, true, false, false, false, false] (by kernel_rfl) ?_
   refine WO.ok (OK.ldCell 159 32 ((p24.add (((out.length : Int) - 1).toNat * 5)).add 4) (.slice ((out.getD ((out.length : Int) - 1).toNat frm0).gSignals_a) ((out.getD ((out.length : Int) - 1).toNat frm0).gSignals_n) ((out.getD ((out.length : Int) - 1).toNat frm0).gSignals_c)) (by kernel_rfl) (by kernel_rfl) (row_cell (S217.nth 3 rfl) (fun _ => rfl) (by decide) hp24 frm0 (((out.length : Int) - 1).toNat) (by omega) 4 _ rfl)) ?_
   refine WB.head (.slice ((out.getD ((out.length : Int) - 1).toNat frm0).gSignals_a) ((out.getD ((out.length : Int) - 1).toNat frm0).gSignals_l.length) ((out.getD ((out.length : Int) - 1).toNat frm0).gSignals_c)) (by rw [hln]) ?_
   refine WB.mk (S217.sub (.cons _ (.cons_cons _ (.cons_cons _ (.cons _ (.cons_cons _ (.cons_cons _ (.cons_cons _ (.cons_cons _ (List.nil_sublist _)))))))))) ?_
   refine WA.weaken (env' := [(2, pt b1), (3, pt b2), (5, pt b3), (26, .slice (some ⟨b4, 0, none⟩) Pz.length Pz.length), (27, iv (Pz.length : Int)), (28, iv i), (155, .pointer (some (p24.add (((out.length : Int) - 1).toNat * 5)))), (159, .slice ((out.getD ((out.length : Int) - 1).toNat frm0).gSignals_a) ((out.getD ((out.length : Int) - 1).toNat frm0).gSignals_l.length) ((out.getD ((out.length : Int) - 1).toNat frm0).gSignals_c)), (161, .slice (some ⟨bd6, 0, none⟩) 1 1)]) (by kernel_rfl) ?_
   exact W3 bd6 w74 S217
  have W6 : ∀ (w75 : World), Sep w (box b6 [.string u7, iv (parX u8), iv (parX u9), .bool (eqT u10 WMo), .bool (eqT u11 WSi), iv (parX u12), iv (parX u13), iv (parX u14), iv (parX u15), iv (parX u16)] 57 :: rowOf (enc1 Value.string) la lc 9 1 A :: rowOf frmE ra rc 34 5 out :: box b4 (Pz.map Value.string) 9 :: box b3 [.slice ra out.length rc] 24 :: box b2 [iv 0, iv 0] 40 :: box b1 [.slice none 0 0] 24 :: rowOf sigE ((out.getD ((out.length : Int) - 1).toNat frm0).gSignals_a) ((out.getD ((out.length : Int) - 1).toNat frm0).gSignals_c) 57 10 ((out.getD ((out.length : Int) - 1).toNat frm0).gSignals_l) :: tlF out.dropLast) w75 → WA Tryd.prog 14 178 R K14_166 (fun w_ => Sep w [box b6 [.string u7, iv (parX u8), iv (parX u9), .bool (eqT u10 WMo), .bool (eqT u11 WSi), iv (parX u12), iv (parX u13), iv (parX u14), iv (parX u15), iv (parX u16)] 57, rowOf (enc1 Value.string) la lc 9 1 A, box b4 (Pz.map Value.string) 9, box b3 [.slice ra out.length rc] 24, box b2 [iv 0, iv 0] 40, box b1 [.slice none 0 0] 24] w_) 6 #[true, true, true, true, false, true, false, false, false, false, false] [(2, pt b1), (3, pt b2), (5, pt b3), (26, .slice (some ⟨b4, 0, none⟩) Pz.length Pz.length), (27, iv (Pz.length : Int)), (28, iv i), (155, .pointer (some (p24.add (((out.length : Int) - 1).toNat * 5)))), (158, .pointer (some ((p24.add (((out.length : Int) - 1).toNat * 5)).add 4))), (160, .agg #[.string u7, iv (parX u8), iv (parX u9), .bool (eqT u10 WMo), .bool (eqT u11 WSi), iv (parX u12), iv (parX u13), iv (parX u14), iv (parX u15), iv (parX u16)])] w75 := by
   intro w75 S218
   refine WA.all [4, 6] (by kernel_rfl) rfl ⟨?_, ?_, trivial⟩
   ·skip
    refine WO.set #[true, true, true, true, true, true, false, false, false, false, false] (by kernel_rfl) ?_
    refine WO.ok (OK.ldCell 159 32 ((p24.add (((out.length : Int) - 1).toNat * 5)).add 4) (.slice ((out.getD ((out.length : Int) - 1).toNat frm0).gSignals_a) ((out.getD ((out.length : Int) - 1).toNat frm0).gSignals_n) ((out.getD ((out.length : Int) - 1).toNat frm0).gSignals_c)) (by kernel_rfl) (by kernel_rfl) (row_cell (S218.nth 2 rfl) (fun _ => rfl) (by decide) hp24 frm0 (((out.length : Int) - 1).toNat) (by omega) 4 _ rfl)) ?_
    refine WB.head (.slice ((out.getD ((out.length : Int) - 1).toNat frm0).gSignals_a) ((out.getD ((out.length : Int) - 1).toNat frm0).gSignals_l.length) ((out.getD ((out.length : Int) - 1).toNat frm0).gSignals_c)) (by rw [hln]) ?_
    refine WB.mk (S218.sub (.cons_cons _ (.cons_cons _ (.cons _ (.cons_cons _ (.cons_cons _ (.cons_cons _ (.cons_cons _ (List.nil_sublist _))))))))) ?_
    refine WA.weaken (env' := [(2, pt b1), (3, pt b2), (5, pt b3), (26, .slice (some ⟨b4, 0, none⟩) Pz.length Pz.length), (27, iv (Pz.length : Int)), (28, iv i), (155, .pointer (some (p24.add (((out.length : Int) - 1).toNat * 5)))), (159, .slice ((out.getD ((out.length : Int) - 1).toNat frm0).gSignals_a) ((out.getD ((out.length : Int) - 1).toNat frm0).gSignals_l.length) ((out.getD ((out.length : Int) - 1).toNat frm0).gSignals_c)), (160, .agg #[.string u7, iv (parX u8), iv (parX u9), .bool (eqT u10 WMo), .bool (eqT u11 WSi), iv (parX u12), iv (parX u13), iv (parX u14), iv (parX u15), iv (parX u16)])]) (by kernel_rfl) ?_
    exact W4 w75 S218
   refine WO.set #[true, true, true, true, false, true, true, false, false, false, false] (by kernel_rfl) ?_
   refine WO.newSlice S218 161 1 [.string u7, iv (parX u8), iv (parX u9), .bool (eqT u10 WMo), .bool (eqT u11 WSi), iv (parX u12), iv (parX u13), iv (parX u14), iv (parX u15), iv (parX u16)] 57 (by kernel_rfl) ?_
   intro bd6 w76 S219
   refine WB.mk (S219.sub (.cons _ (.cons_cons _ (.cons_cons _ (.cons _ (.cons_cons _ (.cons_cons _ (.cons_cons _ (.cons_cons _ (List.nil_sublist _)))))))))) ?_
   refine WA.weaken (env' := [(2, pt b1), (3, pt b2), (5, pt b3), (26, .slice (some ⟨b4, 0, none⟩) Pz.length Pz.length), (27, iv (Pz.length : Int)), (28, iv i), (155, .pointer (some (p24.add (((out.length : Int) - 1).toNat * 5)))), (158, .pointer (some ((p24.add (((out.length : Int) - 1).toNat * 5)).add 4))), (161, .slice (some ⟨bd6, 0, none⟩) 1 1)]) (by kernel_rfl) ?_
   exact W5 bd6 w76 S219
  refine J.drawAny (fun w_ => Sep w [box b6 [.string u7, iv (parX u8), iv (parX u9), .bool (eqT u10 WMo), .bool (eqT u11 WSi), iv (parX u12), iv (parX u13), iv (parX u14), iv (parX u15), iv (parX u16)] 57, rowOf (enc1 Value.string) la lc 9 1 A, box b4 (Pz.map Value.string) 9, box b3 [.slice ra out.length rc] 24, box b2 [iv 0, iv 0] 40, box b1 [.slice none 0 0] 24] w_) S203 11 #[false, false, false, false, false, false, false, false, false, false, false] Tryd.mixed (by kernel_rfl) (by kernel_rfl) (by kernel_rfl) ?_
  intro w77 S220
  refine WB.mk (S220.sub (.cons_cons _ (.cons_cons _ (.cons _ (.cons_cons _ (.cons_cons _ (.cons_cons _ (.cons_cons _ (List.nil_sublist _))))))))) ?_
  refine WA.take 0 155 (.pointer (some (p24.add (((out.length : Int) - 1).toNat * 5)))) #[true, false, false, false, false, false, false, false, false, false, false] (by kernel_rfl) (by kernel_rfl) (by kernel_rfl) (fun _ _ => by kernel_rfl) (by kernel_rfl) ?_
  refine WA.take 1 156 (.pointer (some (p24.add (((out.length : Int) - 1).toNat * 5)))) #[true, true, false, false, false, false, false, false, false, false, false] (by kernel_rfl) (by kernel_rfl) (by kernel_rfl) (fun _ _ => by kernel_rfl) (by kernel_rfl) ?_
  refine WA.take 2 157 (.pointer (some (p24.add (((out.length : Int) - 1).toNat * 5)))) #[true, true, true, false, false, false, false, false, false, false, false] (by kernel_rfl) (by kernel_rfl) (by kernel_rfl) (fun _ _ => by kernel_rfl) (by kernel_rfl) ?_
  refine WA.take 3 158 (.pointer (some ((p24.add (((out.length : Int) - 1).toNat * 5)).add 4))) #[true, true, true, true, false, false, false, false, false, false, false] (by kernel_rfl) (by kernel_rfl) (by kernel_rfl) (fun _ _ => by kernel_rfl) (by kernel_rfl) ?_
  refine WA.takeOK 5 #[true, true, true, true, false, true, false, false, false, false, false] (by kernel_rfl) (by kernel_rfl) (by kernel_rfl) (by kernel_rfl) (fun w_ S_ => OK.ldBox S_ 0 160 57 0 (.agg #[.string u7, iv (parX u8), iv (parX u9), .bool (eqT u10 WMo), .bool (eqT u11 WSi), iv (parX u12), iv (parX u13), iv (parX u14), iv (parX u15), iv (parX u16)]) (by kernel_rfl) rfl (by kernel_rfl)) rfl ?_
  refine WA.weaken (env' := [(2, pt b1), (3, pt b2), (5, pt b3), (26, .slice (some ⟨b4, 0, none⟩) Pz.length Pz.length), (27, iv (Pz.length : Int)), (28, iv i), (155, .pointer (some (p24.add (((out.length : Int) - 1).toNat * 5)))), (158, .pointer (some ((p24.add (((out.length : Int) - 1).toNat * 5)).add 4))), (160, .agg #[.string u7, iv (parX u8), iv (parX u9), .bool (eqT u10 WMo), .bool (eqT u11 WSi), iv (parX u12), iv (parX u13), iv (parX u14), iv (parX u15), iv (parX u16)])]) (by kernel_rfl) ?_
  exact W6 w77 S220
 exact L14_1 _ none 0 ([]) 0 w6 (by omega) (by omega) (by simp) (fun y hy => by cases hy) (fun y hy => by cases hy) (by unfold parsF; rw [if_neg (by omega)]; rfl) S8 rfl

end
end Go.Proofs.YthiklimfffhbaaaDoor

