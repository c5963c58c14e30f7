/-
  DERIVED: THE SHELF's CONTRACTS AT THIS DUMP, IN PLAIN WORDS (tools/lay-plain.mjs out of 'YtaoolgcddapegaaGreatDoorShelf.lean', which tools/lay-shelf.mjs wrote): THE SAME DECLARATIONS UNDER THE SAME NAMES: 'import', 'namespace', 'open', 'def', 'theorem' AND NOTHING ELSE: no command of the shelf's: FOR A HAND-IN. Each laying: the table of numbers ('.._ren') and one theorem, a field a fact of the dump's own or the kernel's comparison; each contract: ONE APPLICATION.
-/
import Derived.Shelf.Small.Strs
import Derived.Shelf.Strconv.Atoi
import Derived.Shelf.Strconv.Itoa0
import Derived.Shelf.Strconv.Itoa1
import Derived.Shelf.LaysM
import Derived.Shelf.Strconv.Itoa2
import Derived.Shelf.Strconv.Itoa3
import Derived.Shelf.Strconv.AtoiErrFast
import Derived.Shelf.Strconv.ParseIntEmpty
import Derived.Shelf.Strconv.AtoiFail
import Derived.Shelf.Strconv.Clone
import Derived.Shelf.Strconv.SyntaxError
import Derived.Shelf.LaysC
import Derived.Shelf.Strconv.ToError
import Derived.Shelf.Strconv.Lower
import Derived.Shelf.Strconv.ParseUint10
import Derived.Shelf.Strconv.ParseUint10Empty
import Derived.Shelf.Strconv.ParseUint10Any
import Derived.Shelf.Strconv.ParseInt10
import Derived.Shelf.Strconv.AtoiLong
import Derived.Shelf.Strconv.AtoiInnerAll
import Derived.Shelf.Strconv.RangeError
import Derived.Shelf.Strconv.ToErrorRange
import Derived.Shelf.Strconv.AtoiAll
import Derived.Shelf.Strings.Search1
import Derived.Shelf.Strings.Search2
import Derived.Shelf.Strings.Search3
import Derived.Shelf.Strings.Count
import Derived.Shelf.Strings.Shaped
import Derived.Shelf.Strings.Prefix
import Derived.Shelf.Strings.Split
import Derived.Shelf.Strings.SplitShaped
import Derived.Shelf.Bits.Mul64
import Derived.Shelf.Unicode.DecodeSlow
import Derived.Test.YtaoolgcddapegaaGreatDoorProg
import Derived.Test.YtaoolgcddapegaaGreatDoorZtA1
import Derived.Test.YtaoolgcddapegaaGreatDoorZtEng10
import Derived.Test.YtaoolgcddapegaaGreatDoorZtEng18
set_option linter.unusedSimpArgs false
set_option linter.unusedVariables false
namespace Go.Proofs
open Go.Shelf
def Tryz.lays137_ren:Go.Shelf.Ren:=⟨fun | 137=>84 | 217=>129 | 266=>173 | n=>n,fun | 9=>9 | 5=>5 | 3=>3 | n=>n,fun | n=>n⟩
theorem Tryz.lays137:Go.Proofs.Lays.n137 Tryz.prog Tryz.lays137_ren:={
  mixed:=by kernel_rfl
  f137:=Tryz.func84.trans (congrArg some (by kernel_rfl))
  f217:=Tryz.func129.trans (congrArg some (by kernel_rfl))
  f266:=Tryz.func173.trans (congrArg some (by kernel_rfl))
  t3:=Tryz.underlying3
  a3:=Tryz.isAgg3
  z3:=Tryz.sizeOf3
  v3:=Tryz.zeroValue3
  t5:=Tryz.underlying5
  a5:=Tryz.isAgg5
  z5:=Tryz.sizeOf5
  v5:=Tryz.zeroValue5
  t9:=Tryz.underlying9
  a9:=Tryz.isAgg9
  z9:=Tryz.sizeOf9
  v9:=Tryz.zeroValue9 }
open Go.RowKit in
theorem Tryz.strings_IndexByte (s:ByteArray) (c:Int) (w:World) :
    Calls Tryz.prog 84 #[.string s,.int .u8 c] w fun e w'=>e=.returned (.int .i64 (Lib.indexByte s.data.toList c.toNat.toUInt8))∧w'=w:=Any.strings_IndexByte Tryz.lays137 s c w
def Tryz.laysM171_ren:Go.Shelf.Ren:=⟨fun | 171=>56 | 243=>91 | 246=>142 | 283=>181 | 284=>182 | 285=>183 | 286=>184 | 129=>211 | 317=>210 | 318=>212 | 319=>213 | 320=>214 | 337=>221 | 338=>222 | n=>n,fun | 3=>3 | 9=>9 | 2=>2 | 4=>4 | 171=>198 | 0=>0 | 53=>103 | 37=>52 | 5=>5 | 173=>201 | 212=>235 | 51=>236 | 20=>20 | 213=>237 | 46=>146 | 232=>252 | 233=>253 | n=>n,fun | 17=>3 | 18=>6 | 19=>7 | n=>n⟩
theorem Tryz.laysM171:Go.Proofs.LaysM.n171 Tryz.prog Tryz.laysM171_ren:={
  mixed:=by kernel_rfl
  f129:=Tryz.func211.trans (congrArg some (by kernel_rfl))
  f171:=Tryz.func56.trans (congrArg some (by kernel_rfl))
  f243:=Tryz.func91.trans (congrArg some (by kernel_rfl))
  f246:=Tryz.func142.trans (congrArg some (by kernel_rfl))
  f283:=Tryz.func181.trans (congrArg some (by kernel_rfl))
  f284:=Tryz.func182.trans (congrArg some (by kernel_rfl))
  f285:=Tryz.func183.trans (congrArg some (by kernel_rfl))
  f286:=Tryz.func184.trans (congrArg some (by kernel_rfl))
  f317:=Tryz.func210.trans (congrArg some (by kernel_rfl))
  f318:=Tryz.func212.trans (congrArg some (by kernel_rfl))
  f319:=Tryz.func213.trans (congrArg some (by kernel_rfl))
  f320:=Tryz.func214.trans (congrArg some (by kernel_rfl))
  f337:=Tryz.func221.trans (congrArg some (by kernel_rfl))
  f338:=Tryz.func222.trans (congrArg some (by kernel_rfl))
  t0:=Tryz.underlying0
  a0:=Tryz.isAgg0
  z0:=Tryz.sizeOf0
  v0:=Tryz.zeroValue0
  t2:=Tryz.underlying2
  a2:=Tryz.isAgg2
  z2:=Tryz.sizeOf2
  v2:=Tryz.zeroValue2
  t3:=Tryz.underlying3
  a3:=Tryz.isAgg3
  z3:=Tryz.sizeOf3
  v3:=Tryz.zeroValue3
  t4:=Tryz.underlying4
  a4:=Tryz.isAgg4
  z4:=Tryz.sizeOf4
  v4:=Tryz.zeroValue4
  t5:=Tryz.underlying5
  a5:=Tryz.isAgg5
  z5:=Tryz.sizeOf5
  v5:=Tryz.zeroValue5
  t9:=Tryz.underlying9
  a9:=Tryz.isAgg9
  z9:=Tryz.sizeOf9
  v9:=Tryz.zeroValue9
  t20:=Tryz.underlying20
  a20:=Tryz.isAgg20
  z20:=Tryz.sizeOf20
  v20:=Tryz.zeroValue20
  t37:=Tryz.underlying52
  a37:=Tryz.isAgg52
  z37:=Tryz.sizeOf52
  v37:=Tryz.zeroValue52
  t46:=Tryz.underlying146
  a46:=Tryz.isAgg146
  z46:=Tryz.sizeOf146
  v46:=Tryz.zeroValue146
  t51:=Tryz.underlying236
  a51:=Tryz.isAgg236
  z51:=Tryz.sizeOf236
  v51:=Tryz.zeroValue236
  t53:=Tryz.underlying103
  a53:=Tryz.isAgg103
  z53:=Tryz.sizeOf103
  v53:=Tryz.zeroValue103
  t171:=Tryz.underlying198
  a171:=Tryz.isAgg198
  z171:=Tryz.sizeOf198
  v171:=Tryz.zeroValue198
  t173:=Tryz.underlying201
  a173:=Tryz.isAgg201
  z173:=Tryz.sizeOf201
  v173:=Tryz.zeroValue201
  t212:=Tryz.underlying235
  a212:=Tryz.isAgg235
  z212:=Tryz.sizeOf235
  v212:=Tryz.zeroValue235
  t213:=Tryz.underlying237
  a213:=Tryz.isAgg237
  z213:=Tryz.sizeOf237
  t232:=Tryz.underlying252
  a232:=Tryz.isAgg252
  z232:=Tryz.sizeOf252
  v232:=Tryz.zeroValue252
  t233:=Tryz.underlying253
  a233:=Tryz.isAgg253
  z233:=Tryz.sizeOf253
  v233:=Tryz.zeroValue253
  g17:=by kernel_rfl
  g18:=by kernel_rfl
  g19:=by kernel_rfl
  i0:=by kernel_rfl
  i2:=by kernel_rfl
  i3:=by kernel_rfl
  i4:=by kernel_rfl
  i5:=by kernel_rfl
  i9:=by kernel_rfl
  i20:=by kernel_rfl
  i37:=by kernel_rfl
  i46:=by kernel_rfl
  i51:=by kernel_rfl
  i53:=by kernel_rfl
  i171:=by kernel_rfl
  i173:=by kernel_rfl
  i212:=by kernel_rfl
  i232:=by kernel_rfl
  i233:=by kernel_rfl
  m17:=by kernel_rfl
  m18:=by kernel_rfl
  m19:=by kernel_rfl }
open Go.RowKit Go.Sort Go.Lib in
theorem Tryz.strconv_Itoa (n:Int) (h0: -9223372036854775808≤n) (h1:n≤9223372036854775807) (w:World) (htab:Lib.TabIs Tryz.prog w "internal/strconv.uint64pow10" .u64 Lib.pow10Tab) :
    Calls Tryz.prog 56 #[.int .i64 n] w fun e w'=>e=.returned (.string ⟨(Lib.itoa n).toArray⟩)∧∃ k os,w'=grow (w.drewN k) os:=Any.strconv_Itoa Tryz.laysM171 n h0 h1 w htab
def Tryz.laysC172_ren:Go.Shelf.Ren:=⟨fun | 172=>55 | 244=>89 | 245=>90 | 247=>137 | 279=>138 | 280=>139 | 281=>140 | 282=>141 | 287=>178 | 316=>179 | 171=>56 | 205=>180 | 321=>208 | 322=>209 | 243=>91 | 246=>142 | 283=>181 | 284=>182 | 285=>183 | 286=>184 | 129=>211 | 317=>210 | 318=>212 | 319=>213 | 320=>214 | 337=>221 | 338=>222 | n=>n,fun | 9=>9 | 3=>3 | 75=>114 | 76=>115 | 4=>4 | 5=>5 | 167=>165 | 37=>52 | 0=>0 | 85=>166 | 2=>2 | 168=>168 | 53=>103 | 175=>192 | 46=>146 | 210=>196 | 127=>231 | 145=>234 | 143=>232 | 21=>21 | 171=>198 | 173=>201 | 212=>235 | 51=>236 | 20=>20 | 213=>237 | 232=>252 | 233=>253 | 80=>254 | n=>n,fun | 15=>0 | 16=>1 | 17=>3 | 18=>6 | 19=>7 | n=>n⟩
theorem Tryz.laysC172:Go.Proofs.LaysC.n172 Tryz.prog Tryz.laysC172_ren:={
  mixed:=by kernel_rfl
  f129:=Tryz.func211.trans (congrArg some (by kernel_rfl))
  f171:=Tryz.func56.trans (congrArg some (by kernel_rfl))
  f172:=Tryz.func55.trans (congrArg some (by kernel_rfl))
  f205:=Tryz.func180.trans (congrArg some (by kernel_rfl))
  f243:=Tryz.func91.trans (congrArg some (by kernel_rfl))
  f244:=Tryz.func89.trans (congrArg some (by kernel_rfl))
  f245:=Tryz.func90.trans (congrArg some (by kernel_rfl))
  f246:=Tryz.func142.trans (congrArg some (by kernel_rfl))
  f247:=Tryz.func137.trans (congrArg some (by kernel_rfl))
  f279:=Tryz.func138.trans (congrArg some (by kernel_rfl))
  f280:=Tryz.func139.trans (congrArg some (by kernel_rfl))
  f281:=Tryz.func140.trans (congrArg some (by kernel_rfl))
  f282:=Tryz.func141.trans (congrArg some (by kernel_rfl))
  f283:=Tryz.func181.trans (congrArg some (by kernel_rfl))
  f284:=Tryz.func182.trans (congrArg some (by kernel_rfl))
  f285:=Tryz.func183.trans (congrArg some (by kernel_rfl))
  f286:=Tryz.func184.trans (congrArg some (by kernel_rfl))
  f287:=Tryz.func178.trans (congrArg some (by kernel_rfl))
  f316:=Tryz.func179.trans (congrArg some (by kernel_rfl))
  f317:=Tryz.func210.trans (congrArg some (by kernel_rfl))
  f318:=Tryz.func212.trans (congrArg some (by kernel_rfl))
  f319:=Tryz.func213.trans (congrArg some (by kernel_rfl))
  f320:=Tryz.func214.trans (congrArg some (by kernel_rfl))
  f321:=Tryz.func208.trans (congrArg some (by kernel_rfl))
  f322:=Tryz.func209.trans (congrArg some (by kernel_rfl))
  f337:=Tryz.func221.trans (congrArg some (by kernel_rfl))
  f338:=Tryz.func222.trans (congrArg some (by kernel_rfl))
  t0:=Tryz.underlying0
  a0:=Tryz.isAgg0
  z0:=Tryz.sizeOf0
  v0:=Tryz.zeroValue0
  t2:=Tryz.underlying2
  a2:=Tryz.isAgg2
  z2:=Tryz.sizeOf2
  v2:=Tryz.zeroValue2
  t3:=Tryz.underlying3
  a3:=Tryz.isAgg3
  z3:=Tryz.sizeOf3
  v3:=Tryz.zeroValue3
  t4:=Tryz.underlying4
  a4:=Tryz.isAgg4
  z4:=Tryz.sizeOf4
  v4:=Tryz.zeroValue4
  t5:=Tryz.underlying5
  a5:=Tryz.isAgg5
  z5:=Tryz.sizeOf5
  v5:=Tryz.zeroValue5
  t9:=Tryz.underlying9
  a9:=Tryz.isAgg9
  z9:=Tryz.sizeOf9
  v9:=Tryz.zeroValue9
  t20:=Tryz.underlying20
  a20:=Tryz.isAgg20
  z20:=Tryz.sizeOf20
  v20:=Tryz.zeroValue20
  t21:=Tryz.underlying21
  a21:=Tryz.isAgg21
  z21:=Tryz.sizeOf21
  v21:=Tryz.zeroValue21
  t37:=Tryz.underlying52
  a37:=Tryz.isAgg52
  z37:=Tryz.sizeOf52
  v37:=Tryz.zeroValue52
  t46:=Tryz.underlying146
  a46:=Tryz.isAgg146
  z46:=Tryz.sizeOf146
  v46:=Tryz.zeroValue146
  t51:=Tryz.underlying236
  a51:=Tryz.isAgg236
  z51:=Tryz.sizeOf236
  v51:=Tryz.zeroValue236
  t53:=Tryz.underlying103
  a53:=Tryz.isAgg103
  z53:=Tryz.sizeOf103
  v53:=Tryz.zeroValue103
  t75:=Tryz.underlying114
  a75:=Tryz.isAgg114
  z75:=Tryz.sizeOf114
  v75:=Tryz.zeroValue114
  t76:=Tryz.underlying115
  a76:=Tryz.isAgg115
  z76:=Tryz.sizeOf115
  v76:=Tryz.zeroValue115
  t85:=Tryz.underlying166
  a85:=Tryz.isAgg166
  z85:=Tryz.sizeOf166
  v85:=Tryz.zeroValue166
  t127:=Tryz.underlying231
  a127:=Tryz.isAgg231
  z127:=Tryz.sizeOf231
  v127:=Tryz.zeroValue231
  t143:=Tryz.underlying232
  a143:=Tryz.isAgg232
  z143:=Tryz.sizeOf232
  v143:=Tryz.zeroValue232
  t145:=Tryz.underlying234
  a145:=Tryz.isAgg234
  z145:=Tryz.sizeOf234
  v145:=Tryz.zeroValue234
  t167:=Tryz.underlying165
  a167:=Tryz.isAgg165
  z167:=Tryz.sizeOf165
  v167:=Tryz.zeroValue165
  t168:=Tryz.underlying168
  a168:=Tryz.isAgg168
  z168:=Tryz.sizeOf168
  v168:=Tryz.zeroValue168
  t171:=Tryz.underlying198
  a171:=Tryz.isAgg198
  z171:=Tryz.sizeOf198
  v171:=Tryz.zeroValue198
  t173:=Tryz.underlying201
  a173:=Tryz.isAgg201
  z173:=Tryz.sizeOf201
  v173:=Tryz.zeroValue201
  t175:=Tryz.underlying192
  a175:=Tryz.isAgg192
  z175:=Tryz.sizeOf192
  v175:=Tryz.zeroValue192
  t210:=Tryz.underlying196
  a210:=Tryz.isAgg196
  z210:=Tryz.sizeOf196
  v210:=Tryz.zeroValue196
  t212:=Tryz.underlying235
  a212:=Tryz.isAgg235
  z212:=Tryz.sizeOf235
  v212:=Tryz.zeroValue235
  t213:=Tryz.underlying237
  a213:=Tryz.isAgg237
  z213:=Tryz.sizeOf237
  t232:=Tryz.underlying252
  a232:=Tryz.isAgg252
  z232:=Tryz.sizeOf252
  v232:=Tryz.zeroValue252
  t233:=Tryz.underlying253
  a233:=Tryz.isAgg253
  z233:=Tryz.sizeOf253
  v233:=Tryz.zeroValue253
  g15:=by kernel_rfl
  g16:=by kernel_rfl
  g17:=by kernel_rfl
  g18:=by kernel_rfl
  g19:=by kernel_rfl
  t80:=Tryz.underlying254
  a80:=Tryz.isAgg254
  z80:=Tryz.sizeOf254
  v80:=Tryz.zeroValue254
  i0:=by kernel_rfl
  i2:=by kernel_rfl
  i3:=by kernel_rfl
  i4:=by kernel_rfl
  i5:=by kernel_rfl
  i9:=by kernel_rfl
  i20:=by kernel_rfl
  i21:=by kernel_rfl
  i37:=by kernel_rfl
  i46:=by kernel_rfl
  i51:=by kernel_rfl
  i53:=by kernel_rfl
  i75:=by kernel_rfl
  i76:=by kernel_rfl
  i80:=by kernel_rfl
  i85:=by kernel_rfl
  i127:=by kernel_rfl
  i143:=by kernel_rfl
  i145:=by kernel_rfl
  i167:=by kernel_rfl
  i168:=by kernel_rfl
  i171:=by kernel_rfl
  i173:=by kernel_rfl
  i175:=by kernel_rfl
  i210:=by kernel_rfl
  i212:=by kernel_rfl
  i232:=by kernel_rfl
  i233:=by kernel_rfl
  m15:=by kernel_rfl
  m16:=by kernel_rfl
  m17:=by kernel_rfl
  m18:=by kernel_rfl
  m19:=by kernel_rfl
  c0:=by kernel_rfl
  c2:=by kernel_rfl
  c3:=by kernel_rfl
  c4:=by kernel_rfl
  c5:=by kernel_rfl
  c9:=by kernel_rfl
  c20:=by kernel_rfl
  c21:=by kernel_rfl
  c37:=by kernel_rfl
  c46:=by kernel_rfl
  c51:=by kernel_rfl
  c53:=by kernel_rfl
  c75:=by kernel_rfl
  c76:=by kernel_rfl
  c80:=by kernel_rfl
  c85:=by kernel_rfl
  c127:=by kernel_rfl
  c143:=by kernel_rfl
  c145:=by kernel_rfl
  c167:=by kernel_rfl
  c168:=by kernel_rfl
  c171:=by kernel_rfl
  c173:=by kernel_rfl
  c175:=by kernel_rfl
  c210:=by kernel_rfl
  c212:=by kernel_rfl
  c213:=by kernel_rfl
  c232:=by kernel_rfl
  c233:=by kernel_rfl }
open Go.RowKit in
theorem Tryz.strconv_Atoi_ok (s:ByteArray) (hmax:s.size≤9223372036854775806) (v:Int) (h:Lib.atoiAll s.data.toList=.ok v) (w:World) :
    Calls Tryz.prog 55 #[.string s] w fun e w'=>e=.returned (.tuple #[.int .i64 v,.nilIface])∧(w'=w∨∃ t,w'=Lib.bytesWorld w 5 t):=Any.strconv_Atoi_ok Tryz.laysC172 s hmax v h w
open Go.RowKit in
theorem Tryz.strconv_Atoi_syntax (s:ByteArray) (hlim:s.size≤281474976710656) (h:Lib.atoiAll s.data.toList=.syntax) (ev:Value) (w:World) (hv:w.cell? ⟨0,0,none⟩=some ev) (hev:ev=.nilIface∨∃ te pe,ev=.iface te pe) :
    Calls Tryz.prog 55 #[.string s] w fun e w'=>∃ N,e=.returned (.tuple #[.int .i64 (0),.iface 168 (.pointer (some ⟨N,0,none⟩))])∧w.heap.size≤N∧w'.heap[N]? =some (.cells #[.string ⟨#[65,116,111,105]⟩,.string s,ev] 196 (0,0))∧Below w.heap.size w w':=Any.strconv_Atoi_syntax Tryz.laysC172 s hlim h ev w hv hev
open Go.RowKit in
theorem Tryz.strconv_Atoi_range (s:ByteArray) (hlim:s.size≤281474976710656) (h:Lib.atoiAll s.data.toList=.range) (ev:Value) (w:World) (hv:w.cell? ⟨1,0,none⟩=some ev) (hev:ev=.nilIface∨∃ te pe,ev=.iface te pe) :
    Calls Tryz.prog 55 #[.string s] w fun e w'=>∃ N,e=.returned (.tuple #[.int .i64 (Lib.atoiSat s.data.toList),.iface 168 (.pointer (some ⟨N,0,none⟩))])∧w.heap.size≤N∧w'.heap[N]? =some (.cells #[.string ⟨#[65,116,111,105]⟩,.string s,ev] 196 (0,0))∧Below w.heap.size w w':=Any.strconv_Atoi_range Tryz.laysC172 s hlim h ev w hv hev
def Tryz.lays100_ren:Go.Shelf.Ren:=⟨fun | 100=>85 | 207=>130 | n=>n,fun | 9=>9 | 4=>4 | 3=>3 | n=>n,fun | n=>n⟩
theorem Tryz.lays100:Go.Proofs.Lays.n100 Tryz.prog Tryz.lays100_ren:={
  mixed:=by kernel_rfl
  f100:=Tryz.func85.trans (congrArg some (by kernel_rfl))
  f207:=Tryz.func130.trans (congrArg some (by kernel_rfl))
  t3:=Tryz.underlying3
  a3:=Tryz.isAgg3
  z3:=Tryz.sizeOf3
  v3:=Tryz.zeroValue3
  t4:=Tryz.underlying4
  a4:=Tryz.isAgg4
  z4:=Tryz.sizeOf4
  v4:=Tryz.zeroValue4
  t9:=Tryz.underlying9
  a9:=Tryz.isAgg9
  z9:=Tryz.sizeOf9
  v9:=Tryz.zeroValue9 }
open Go.RowKit Go.Lib in
theorem Tryz.strings_HasSuffix (s p:ByteArray) (w:World) (hs:s.size≤9223372036854775807) :
    Calls Tryz.prog 85 #[.string s,.string p] w fun e w'=>e=.returned (.bool (Lib.hasSuffix s.data.toList p.data.toList))∧w'=w:=Any.strings_HasSuffix Tryz.lays100 s p w hs
def Tryz.lays101_ren:Go.Shelf.Ren:=⟨fun | 101=>54 | 208=>88 | 206=>136 | n=>n,fun | 9=>9 | 4=>4 | 3=>3 | n=>n,fun | n=>n⟩
theorem Tryz.lays101:Go.Proofs.Lays.n101 Tryz.prog Tryz.lays101_ren:={
  mixed:=by kernel_rfl
  f101:=Tryz.func54.trans (congrArg some (by kernel_rfl))
  f206:=Tryz.func136.trans (congrArg some (by kernel_rfl))
  f208:=Tryz.func88.trans (congrArg some (by kernel_rfl))
  t3:=Tryz.underlying3
  a3:=Tryz.isAgg3
  z3:=Tryz.sizeOf3
  v3:=Tryz.zeroValue3
  t4:=Tryz.underlying4
  a4:=Tryz.isAgg4
  z4:=Tryz.sizeOf4
  v4:=Tryz.zeroValue4
  t9:=Tryz.underlying9
  a9:=Tryz.isAgg9
  z9:=Tryz.sizeOf9
  v9:=Tryz.zeroValue9 }
open Go.RowKit Go.Lib in
theorem Tryz.strings_TrimPrefix (s p:ByteArray) (w:World) :
    Calls Tryz.prog 54 #[.string s,.string p] w fun e w'=>e=.returned (.string ⟨(Lib.trimPrefix s.data.toList p.data.toList).toArray⟩)∧w'=w:=Any.strings_TrimPrefix Tryz.lays101 s p w
def Tryz.lays146_ren:Go.Shelf.Ren:=⟨fun | 146=>50 | 221=>87 | 268=>133 | 138=>134 | 143=>135 | 195=>174 | 197=>175 | 218=>176 | 219=>177 | 260=>204 | 217=>129 | 225=>205 | 224=>206 | 267=>207 | 266=>173 | 314=>220 | n=>n,fun | 9=>9 | 31=>104 | 3=>3 | 4=>4 | 0=>0 | 105=>190 | 21=>21 | 5=>5 | 46=>146 | 119=>244 | 139=>247 | 138=>246 | 146=>248 | 51=>236 | n=>n,fun | 1=>2 | 3=>4 | 4=>5 | n=>n⟩
theorem Tryz.lays146:Go.Proofs.Lays.n146 Tryz.prog Tryz.lays146_ren:={
  mixed:=by kernel_rfl
  f138:=Tryz.func134.trans (congrArg some (by kernel_rfl))
  f143:=Tryz.func135.trans (congrArg some (by kernel_rfl))
  f146:=Tryz.func50.trans (congrArg some (by kernel_rfl))
  f195:=Tryz.func174.trans (congrArg some (by kernel_rfl))
  f197:=Tryz.func175.trans (congrArg some (by kernel_rfl))
  f217:=Tryz.func129.trans (congrArg some (by kernel_rfl))
  f218:=Tryz.func176.trans (congrArg some (by kernel_rfl))
  f219:=Tryz.func177.trans (congrArg some (by kernel_rfl))
  f221:=Tryz.func87.trans (congrArg some (by kernel_rfl))
  f224:=Tryz.func206.trans (congrArg some (by kernel_rfl))
  f225:=Tryz.func205.trans (congrArg some (by kernel_rfl))
  f260:=Tryz.func204.trans (congrArg some (by kernel_rfl))
  f266:=Tryz.func173.trans (congrArg some (by kernel_rfl))
  f267:=Tryz.func207.trans (congrArg some (by kernel_rfl))
  f268:=Tryz.func133.trans (congrArg some (by kernel_rfl))
  f314:=Tryz.func220.trans (congrArg some (by kernel_rfl))
  t0:=Tryz.underlying0
  a0:=Tryz.isAgg0
  z0:=Tryz.sizeOf0
  v0:=Tryz.zeroValue0
  t3:=Tryz.underlying3
  a3:=Tryz.isAgg3
  z3:=Tryz.sizeOf3
  v3:=Tryz.zeroValue3
  t4:=Tryz.underlying4
  a4:=Tryz.isAgg4
  z4:=Tryz.sizeOf4
  v4:=Tryz.zeroValue4
  t5:=Tryz.underlying5
  a5:=Tryz.isAgg5
  z5:=Tryz.sizeOf5
  v5:=Tryz.zeroValue5
  t9:=Tryz.underlying9
  a9:=Tryz.isAgg9
  z9:=Tryz.sizeOf9
  v9:=Tryz.zeroValue9
  t21:=Tryz.underlying21
  a21:=Tryz.isAgg21
  z21:=Tryz.sizeOf21
  v21:=Tryz.zeroValue21
  t31:=Tryz.underlying104
  a31:=Tryz.isAgg104
  z31:=Tryz.sizeOf104
  v31:=Tryz.zeroValue104
  t46:=Tryz.underlying146
  a46:=Tryz.isAgg146
  z46:=Tryz.sizeOf146
  v46:=Tryz.zeroValue146
  t51:=Tryz.underlying236
  a51:=Tryz.isAgg236
  z51:=Tryz.sizeOf236
  v51:=Tryz.zeroValue236
  t105:=Tryz.underlying190
  a105:=Tryz.isAgg190
  z105:=Tryz.sizeOf190
  v105:=Tryz.zeroValue190
  t119:=Tryz.underlying244
  a119:=Tryz.isAgg244
  z119:=Tryz.sizeOf244
  t138:=Tryz.underlying246
  a138:=Tryz.isAgg246
  z138:=Tryz.sizeOf246
  v138:=Tryz.zeroValue246
  t139:=Tryz.underlying247
  a139:=Tryz.isAgg247
  z139:=Tryz.sizeOf247
  v139:=Tryz.zeroValue247
  t146:=Tryz.underlying248
  a146:=Tryz.isAgg248
  z146:=Tryz.sizeOf248
  v146:=Tryz.zeroValue248
  g1:=by kernel_rfl
  g3:=by kernel_rfl
  g4:=by kernel_rfl }
open Go.RowKit Go.Lib in
theorem Tryz.strings_Split (s sep:ByteArray) (m:Int) (w:World) (hs:s.size<4294967281) (hm:w.cell? ⟨2,0,none⟩=some (.int .i64 m)) (h1:1≤sep.size) :
    Calls Tryz.prog 50 #[.string s,.string sep] w fun e w' =>
      e=.returned (.slice (some ⟨w.heap.size,0,none⟩) (Lib.countB s sep+1) (Lib.countB s sep+1))∧w'=w.alloc (.cells ((Lib.splitB sep 0 (Lib.countB s sep) s).map Value.string).toArray 9):=Any.strings_Split Tryz.lays146 (by kernel_rfl) s sep m w hs hm h1
end Go.Proofs

namespace Go.Proofs.YtaoolgcddapegaaGreatDoor
open Go.Eng Go.RowKit
set_option maxRecDepth 20000
set_option maxHeartbeats 20000000
abbrev TabW (w:World):Prop:=Lib.TabIs Tryz.prog w "internal/strconv.uint64pow10" .u64 Lib.pow10Tab∧ErrW w 0∧ErrW w 1∧IntW w 2 .i64
theorem tabW_sep {w w':World} {L:List Go.Eng.Claim} (h:TabW w) (S:Sep w L w'):TabW w':=⟨S.tab (g:=3) kr h.1,(h.2.1).sep S,(h.2.2.1).sep S,(h.2.2.2).sep S⟩
abbrev iv (n:Int):Value:=Value.int IntKind.i64 n
abbrev pv (b:Nat):Value:=Value.pointer (some (Addr.mk b 0 none))
theorem wrapU (n:Int):IntKind.wrap .u64 n=n%18446744073709551616:=by simp[IntKind.wrap,IntKind.bits,IntKind.signed]
theorem dg_step {q:Nat→Prop} {i:Int} (h0:0≤i) (hq:∀ k,k<i.toNat→q k) (h:q i.toNat):∀ k,k<(i+1).toNat→q k:=by
  intro k hk
  by_cases e:k=i.toNat
  · subst e;exact h
  · exact hq k om
theorem hb56:af Tryz.prog 56:=fun _ _=>by kernel_rfl
theorem itoa_any (n:Int) (w:World) (hn: -9223372036854775808≤n∧n≤9223372036854775807) (hW:TabW w):Ret Tryz.prog 56 #[iv n] w (fun v w'=>v=.string (itoaB n)∧Sep w [] w') :=
  Ret.of_calls (Tryz.strconv_Itoa n hn.1 hn.2 w hW.1) fun w' ⟨k,os,e⟩=>⟨rfl,by subst e;exact .of_grow _ _ _⟩
theorem hb55:af Tryz.prog 55:=fun _ _=>by kernel_rfl
end Go.Proofs.YtaoolgcddapegaaGreatDoor
namespace Go.Proofs.YtaoolgcddapegaaGreatDoor
noncomputable section
open Go.Eng Go.RowKit Go.Proofs.Tryz
set_option maxRecDepth 20000
set_option maxHeartbeats 20000000
structure Rw where
  gS_a:Option Addr
  gS_n:Nat
  gS_c:Nat
  ch:List Int
def rwE (x:Rw):List Value:=[.slice x.gS_a x.gS_n x.gS_c]
def rwQ (w:World) (x:Rw):Prop:=(x.gS_n≤x.gS_c∧x.gS_c≤9223372036854775807)∧Ones (Value.int .i64) w x.gS_a x.gS_n x.ch∧(∀ y ∈ x.ch,(fun n=>(-9223372036854775808)≤n∧n≤9223372036854775807) y)∧True
theorem rwQ_sep {w0 w:World} {L:List Eng.Claim} {x:Rw} (h:rwQ w0 x) (S:Sep w0 L w):rwQ w x:=by
  obtain ⟨hgS1,hgS2,hgS3,_⟩:=h
  exact⟨hgS1,hgS2.sep S,hgS3,trivial⟩
structure Mp where
  cD:Option Addr
  aN:Nat
  dn:Nat
  aG:List Int
  cK:Option Addr
  bD:Nat
  dv:Nat
  aY:List Int
  gZ_a:Option Addr
  dI:Nat
  gZ_c:Nat
  bi:List Rw
def mpE (x:Mp):List Value:=[.slice x.cD x.aN x.dn,.slice x.cK x.bD x.dv,.slice x.gZ_a x.dI x.gZ_c]
def mpQ (w:World) (x:Mp):Prop:=(x.aN≤x.dn∧x.dn≤9223372036854775807)∧Ones (Value.int .i64) w x.cD x.aN x.aG∧(∀ y ∈ x.aG,(fun n=>(-9223372036854775808)≤n∧n≤9223372036854775807) y)∧(x.bD≤x.dv∧x.dv≤9223372036854775807)∧Ones (Value.int .i64) w x.cK x.bD x.aY∧(∀ y ∈ x.aY,(fun n=>(-9223372036854775808)≤n∧n≤9223372036854775807) y)∧(x.dI≤x.gZ_c∧x.gZ_c≤9223372036854775807)∧Recs rwE 1 w x.gZ_a x.dI x.bi∧(∀ y ∈ x.bi,(rwQ w) y)∧True
theorem eg {w0 w:World} {L:List Eng.Claim} {x:Mp} (h:mpQ w0 x) (S:Sep w0 L w):mpQ w x:=by
  obtain ⟨hgX1,hgX2,hgX3,hgY1,hgY2,hgY3,hgZ1,hgZ2,hgZ3,_⟩:=h
  exact⟨hgX1,hgX2.sep S,hgX3,hgY1,hgY2.sep S,hgY3,hgZ1,hgZ2.sep S,fun y hy=>rwQ_sep (hgZ3 y hy) S,trivial⟩
abbrev mpC (x:Mp):List Value:=[.slice x.cD x.aN x.dn,.slice x.cK x.bD x.dv,.slice x.gZ_a x.dI x.gZ_c]
abbrev mpA (x:Mp):Array Value:=#[.slice x.cD x.aN x.dn,.slice x.cK x.bD x.dv,.slice x.gZ_a x.dI x.gZ_c]

def elB (n:Int):Bool:=decide (-1073741824≤n)&&decide (n≤1073741824)
theorem elB_iff {n:Int}:elB n=true↔ -1073741824≤n∧n≤1073741824:=by simp[elB]
def nodeB (l:List Int) (i:Nat):Bool:=elB (l.getD i 0)&&(i==0||decide (l.getD (i-1) 0<l.getD i 0))
def cd (l:List Int):Bool:=decide (2≤l.length)&&decide (l.length≤32)&&(List.range l.length).all (nodeB l)
theorem all_range_false {n j:Nat} {p:Nat→Bool} (h:j<n) (hp:p j=false):(List.range n).all p=false:=by
  rw[List.all_eq_false];exact⟨j,by simpa using h,by simp[hp]⟩
theorem all_range_true {n:Nat} {p:Nat→Bool} (h:∀ j,j<n→p j=true):(List.range n).all p=true:=by
  rw[List.all_eq_true];intro j hj;exact h j (by simpa using hj)
theorem cW {q:Nat→Prop} {i:Int} (h0:0≤i) (hq:∀ k,k<i.toNat→q k) (h:q i.toNat):∀ k,k<(i+1).toNat→q k:=by
  intro k hk
  by_cases e:k=i.toNat
  · subst e;exact h
  · exact hq k om
theorem node_yes {l:List Int} {i:Int} (h0:0≤i) (h:elB (l.getD i.toNat 0)=true) (h2:i=0∨l.getD (i-1).toNat 0<l.getD i.toNat 0):nodeB l i.toNat=true:=by
  unfold nodeB
  rw[h,Bool.true_and,Bool.or_eq_true]
  rcases h2 with h2 | h2
  · left;subst h2;rfl
  · right;rw[show i.toNat-1=(i-1).toNat by omega];exact decide_eq_true h2
theorem node_no {l:List Int} {i:Int} (h0:0≤i) (h:elB (l.getD i.toNat 0)=false∨(0<i∧l.getD i.toNat 0≤l.getD (i-1).toNat 0)):nodeB l i.toNat=false:=by
  unfold nodeB
  rcases h with h | ⟨h1,h2⟩
  · rw[h];rfl
  · rw[beq_eq_false_iff_ne.2 (show i.toNat≠0 by omega),Bool.false_or,show i.toNat-1=(i-1).toNat by omega,decide_eq_false om,Bool.and_false]
theorem axis_no {l:List Int} (h:l.length<2∨32<l.length):cd l=false:=by
  unfold cd
  rcases h with h | h
  · rw[decide_eq_false om];rfl
  · rw[decide_eq_false (show ¬ l.length≤32 by omega)];simp
theorem axis_bad {l:List Int} {i:Int} (h0:0≤i) (hi:i<(l.length:Int)) (h:nodeB l i.toNat=false):cd l=false:=by
  unfold cd;rw[all_range_false (j:=i.toNat) om h];simp
theorem axis_yes {l:List Int} (h1:2≤l.length) (h2:l.length≤32) (h:∀ j,j<l.length→nodeB l j=true):cd l=true:=by
  unfold cd;rw[decide_eq_true h1,decide_eq_true h2,all_range_true h];rfl
theorem cc {l:List Int} (h:cd l=true):(2≤l.length∧l.length≤32)∧(∀ j,j<l.length→ -1073741824≤l.getD j 0∧l.getD j 0≤1073741824)∧∀ j,j+1<l.length→l.getD j 0<l.getD (j+1) 0:=by
  simp only[cd,Bool.and_eq_true,decide_eq_true_eq,List.all_eq_true,List.mem_range] at h
  obtain ⟨⟨h1,h2⟩,h3⟩:=h
  refine⟨⟨h1,h2⟩,fun j hj=>?_,fun j hj=>?_⟩
  · have:=h3 j hj
    simp only[nodeB,Bool.and_eq_true] at this
    exact elB_iff.1 this.1
  · have:=h3 (j+1) hj
    simp only[nodeB,Bool.and_eq_true,Bool.or_eq_true,beq_iff_eq,decide_eq_true_eq,Nat.add_sub_cancel] at this
    rcases this.2 with h4 | h4
    · omega
    · exact h4
theorem cv {l:List Int} (h:cd l=true) {i j:Nat} (hij:i<j) (hj:j<l.length):l.getD i 0<l.getD j 0:=by
  obtain ⟨_,_,h3⟩:=cc h
  induction j with
  | zero=>omega
  | succ j ih =>
    have:=h3 j hj
    by_cases e:i=j
    · subst e;exact this
    · have:=ih om om;omega
def rowB (n:Nat) (r:Rw):Bool:=r.gS_n==n&&r.ch.all elB
def co (m:Mp):Bool:=cd m.aG&&cd m.aY&&m.dI==m.aN&&m.bi.all (rowB m.bD)
def rw0:Rw:=⟨none,0,0,[]⟩
theorem row_no {n:Nat} {r:Rw} (h:r.gS_n≠n∨r.ch.all elB=false):rowB n r=false:=by
  unfold rowB
  rcases h with h | h
  · rw[beq_eq_false_iff_ne.2 h];rfl
  · rw[h,Bool.and_false]
theorem row_yes {n:Nat} {r:Rw} (h:r.gS_n=n) (h2:r.ch.all elB=true):rowB n r=true:=by unfold rowB;rw[h,h2];simp
theorem getD_mem {α:Type} {l:List α} {n:Nat} (d:α) (h:n<l.length):l.getD n d ∈ l:=by
  rw[List.getD_eq_getElem?_getD,List.getElem?_eq_getElem h];exact List.getElem_mem h
theorem cL {α:Type} {l:List α} {q:α→Bool} (d:α):l.all q=true↔∀ j,j<l.length→q (l.getD j d)=true:=by
  rw[List.all_eq_true]
  constructor
  · intro h j hj;exact h _ (getD_mem d hj)
  · intro h x hx
    obtain ⟨j,hj,rfl⟩:=List.mem_iff_getElem.1 hx
    have:=h j hj
    simpa [List.getD,hj] using this
theorem all_no {α:Type} {l:List α} {q:α→Bool} (d:α) {j:Nat} (hj:j<l.length) (h:q (l.getD j d)=false):l.all q=false:=by
  rw[List.all_eq_false];exact⟨_,getD_mem d hj,by rw[h];simp⟩
theorem dF {α:Type} (q:α→Bool) (l:List α):(l.any fun x=> !q x)= !l.all q:=by rw[← List.not_all_eq_any_not]
theorem valid_no {m:Mp} (h:cd m.aG=false∨cd m.aY=false∨m.dI≠m.aN):co m=false:=by
  unfold co
  rcases h with h | h | h
  · rw[h];rfl
  · rw[h];simp
  · rw[beq_eq_false_iff_ne.2 h];simp
theorem valid_bad {m:Mp} {i:Int} (h0:0≤i) (hi:i<(m.bi.length:Int)) (h:rowB m.bD (m.bi.getD i.toNat rw0)=false):co m=false:=by
  unfold co;rw[all_no rw0 om h];simp
theorem valid_yes {m:Mp} (h1:cd m.aG=true) (h2:cd m.aY=true) (h3:m.dI=m.aN) (h:∀ j,j<m.bi.length→rowB m.bD (m.bi.getD j rw0)=true):co m=true:=by
  unfold co;rw[h1,h2,h3,(cL rw0).2 h];simp
theorem valid_facts {m:Mp} (h:co m=true):cd m.aG=true∧cd m.aY=true∧m.dI=m.aN∧∀ j,j<m.bi.length→(m.bi.getD j rw0).gS_n=m.bD∧∀ k,k<(m.bi.getD j rw0).ch.length→ -1073741824≤(m.bi.getD j rw0).ch.getD k 0∧(m.bi.getD j rw0).ch.getD k 0≤1073741824:=by
  simp only[co,Bool.and_eq_true,beq_iff_eq] at h
  obtain ⟨⟨⟨h1,h2⟩,h3⟩,h4⟩:=h
  refine⟨h1,h2,h3,fun j hj=>?_⟩
  have h5:=(cL rw0).1 h4 j hj
  simp only[rowB,Bool.and_eq_true,beq_iff_eq] at h5
  exact⟨h5.1,fun k hk=>elB_iff.1 ((cL 0).1 h5.2 k hk)⟩
def zF (m:Mp) (i j:Nat):Int:=(m.bi.getD i rw0).ch.getD j 0

theorem hb149:af prog 149:=fun _ _=>by kernel_rfl

theorem element_any (n:Int) (w:World):Ret prog 149 #[iv n] w (fun v w'=>v=.bool (elB n)∧Sep w [] w'):=by
 refine Ret.st (N:=9) func149 fun R hR S0=>J.c 9 [] [] [] 5 (n≥(-1073741824)) (fun fk1=>?_) fun fk1=>?_
 refine J.e 5 [.bool (decide (n≤1073741824))] func149 (hR _ _ ?_)
 exact⟨congrArg Value.bool (by rw[Bool.eq_iff_iff];simp[elB];omega),S0.nil⟩
 refine J.e 5 [.bool false] func149 (hR _ _ ?_)
 exact⟨congrArg Value.bool (by rw[Bool.eq_iff_iff];simp[elB];omega),S0.nil⟩

theorem hb71:af prog 71:=fun _ _=>by kernel_rfl

theorem far_any (n:Int) (w:World):Ret prog 71 #[iv n] w (fun v w'=>v=.bool (!elB n)∧Sep w [] w'):=by
 refine Ret.st (N:=9) func71 fun R hR S0=>J.c 9 [] [] [] 5 (n<(-1073741824)) (fun fk1=>?_) fun fk1=>?_
 refine J.e 5 [.bool true] func71 (hR _ _ ?_)
 exact⟨congrArg Value.bool (by rw[Bool.eq_iff_iff];simp[elB];omega),S0.nil⟩
 refine J.e 5 [.bool (decide (n>1073741824))] func71 (hR _ _ ?_)
 exact⟨congrArg Value.bool (by rw[Bool.eq_iff_iff];simp[elB];omega),S0.nil⟩

theorem hb147:af prog 147:=fun _ _=>by kernel_rfl
def K147_0:=adv 27 [false] (bl Tryz.f147)
theorem axis_any (la:Option Addr) (len cap:Nat) (l:List Int) (w:World) (hI:dG w la len l) (hlen:len≤9223372036854775807):Ret prog 147 #[.slice la len cap] w (fun v w'=>v=.bool (cd l)∧Sep w [] w'):=by
 refine Ret.st (N:=37) func147 fun R hR S0=>?_
 have hll:=hI.len_eq
 refine J.c 11 [] [] [] 8 ((len:Int)<2) (fun fk1=>?_) fun fk1=>?_
 refine J.e 10 [.bool false] func147 (hR _ _ ?_)
 exact⟨congrArg Value.bool (axis_no om).symm,S0.nil⟩
 refine J.c 5 [] [] [] 12 ((len:Int)>32) (fun fk2=>?_) fun fk2=>?_
 refine J.e 5 [.bool false] func147 (hR _ _ ?_)
 exact⟨congrArg Value.bool (axis_no om).symm,S0.nil⟩
 have L147_1:∀ (mm_:Nat) (i:Int) (w1:World),(0≤i)→(i≤(len:Int))→(∀ j,j<(i).toNat→nodeB l j=true)→Sep w [] w1→((len:Int)-i).toNat=mm_→J prog 147 37 R K147_0 [(15,iv i),(14,iv (len:Int)),(13,.slice la len cap),(0,.slice la len cap)] w1:=by
  intro mm1
  induction mm1 using Nat.strongRecOn with
  | _ mm1 ih1 =>
  intro i w1 h0 h1 hq S1 hm1
  refine J.c 5 [] [] [] 16 (i<(len:Int)) (fun fk3=>?_) fun fk3=>?_
  refine J.r 7 [true] [(17,iv i)] [] ?_
  obtain ⟨p1,hp1,hc1⟩:=hI.at 0 (i).toNat om
  refine J.ok (OK.index 18 26 1 la p1 len (i).toNat i (p1.add (i).toNat) kr kr hp1 om om nO)<|J.ok (OK.ldCell 19 3 (p1.add (i).toNat) (iv (l.getD (i).toNat 0)) kr kr (S1.cell hc1))<|J.c0 6 [] [(4,iv (l.getD (i).toNat 0)),(3,iv i)] [] S1 21 hb149 (element_any (l.getD (i).toNat 0) _) fun w2 S2=>J.bn 2 [] [] [] 23 (elB (l.getD (i).toNat 0)) (fun fk4=>?_) fun fk4=>?_
  refine J.c 3 [] [] [] 26 (i>0) (fun fk5=>?_) fun fk5=>?_
  refine J.wi 4 [] [(28,.slice la len cap),(27,iv (l.getD (i).toNat 0))] [] 30 (i-1) ?_
  obtain ⟨p2,hp2,hc2⟩:=hI.at 0 (i-1).toNat om
  refine J.ok (OK.index 31 26 1 la p2 len (i-1).toNat (i-1) (p2.add (i-1).toNat) kr kr hp2 om om nO)<|J.ok (OK.ldCell 32 3 (p2.add (i-1).toNat) (iv (l.getD (i-1).toNat 0)) kr kr (S2.cell hc2))<|J.c 4 [] [] [] 35 ((l.getD (i).toNat 0)≤(l.getD (i-1).toNat 0)) (fun fk6=>?_) fun fk6=>?_
  refine J.e 5 [.bool false] func147 (hR _ _ ?_)
  exact⟨congrArg Value.bool (axis_bad h0 om (node_no h0 (by first | exact .inl fk4 | exact .inr ⟨om,om⟩))).symm,S2.nil⟩
  exact J.wi 5 [false] [] [] 36 (i+1)<|J.t 3 (ih1 _ (show((len:Int)-(i+1)).toNat<mm1 from by omega) (i+1) w2 om om (cW h0 hq (node_yes h0 fk4 om)) S2 rfl)
  exact J.wi 15 [false] [] [] 36 (i+1)<|J.t 3 (ih1 _ (show((len:Int)-(i+1)).toNat<mm1 from by omega) (i+1) w2 om om (cW h0 hq (node_yes h0 fk4 om)) S2 rfl)
  refine J.e 18 [.bool false] func147 (hR _ _ ?_)
  exact⟨congrArg Value.bool (axis_bad h0 om (node_no h0 (by first | exact .inl fk4 | exact .inr ⟨om,om⟩))).symm,S2.nil⟩
  refine J.e 6 [.bool true] func147 (hR _ _ ?_)
  exact⟨congrArg Value.bool (axis_yes om om fun j hj=>hq j om).symm,S1.nil⟩
 exact J.t 11 (L147_1 _ 0 w om om (by intro j hj;simp at hj) S0 rfl)

theorem hb70:af prog 70:=fun _ _=>by kernel_rfl
def K70_0:=adv 25 [false] (bl Tryz.f70)
theorem raxis_any (la:Option Addr) (len cap:Nat) (l:List Int) (w:World) (hI:dG w la len l) (hlen:len≤9223372036854775807):Ret prog 70 #[.slice la len cap] w (fun v w'=>v=.bool (cd l)∧Sep w [] w'):=by
 refine Ret.st (N:=39) func70 fun R hR S0=>?_
 have hll:=hI.len_eq
 refine J.c 11 [] [] [] 7 ((len:Int)<2) (fun fk1=>?_) fun fk1=>?_
 refine J.e 10 [.bool false] func70 (hR _ _ ?_)
 exact⟨congrArg Value.bool (axis_no om).symm,S0.nil⟩
 refine J.c 5 [] [] [] 11 ((len:Int)>32) (fun fk2=>?_) fun fk2=>?_
 refine J.e 5 [.bool false] func70 (hR _ _ ?_)
 exact⟨congrArg Value.bool (axis_no om).symm,S0.nil⟩
 have L70_1:∀ (mm_:Nat) (i:Int) (w1:World),(0≤i)→(i≤(len:Int))→(∀ j,j<(i).toNat→nodeB l j=true)→Sep w [] w1→((len:Int)-i).toNat=mm_→J prog 70 39 R K70_0 [(3,iv i),(0,.slice la len cap)] w1:=by
  intro mm1
  induction mm1 using Nat.strongRecOn with
  | _ mm1 ih1 =>
  intro i w1 h0 h1 hq S1 hm1
  refine J.c 8 [] [] [] 15 (i<(len:Int)) (fun fk3=>?_) fun fk3=>?_
  refine J.r 5 [true] [] [] ?_
  rcases Bool.eq_false_or_eq_true (elB (l.getD (i).toNat 0)) with fk4 | fk4
  by_cases fk5:i>0
  obtain ⟨p1,hp1,hc1⟩:=hI.at 0 (i).toNat om
  obtain ⟨p2,hp2,hc2⟩:=hI.at 0 (i-1).toNat om
  refine J.drawPlan (fun w_=>Sep w [] w_) [(0,true),(1,true),(2,true),(3,true),(4,false),(5,true),(6,true),(7,true),(8,true),(9,true),(10,true),(11,true),(12,true),(13,true),(14,true),(15,true),(16,true),(17,true),(18,true),(19,true),(20,true)] S1 Tryz.mixed kr (aE (T:=[(0,some 18,1),(0,some 19,8),(3,some 20,786432),(4,some 21,1048576),(8,some 22,2097152),(16,some 23,4194304),(32,some 24,8388616),(96,some 25,25165824),(160,some 26,41943040),(256,some 27,67108865),(256,some 28,67108872),(1792,some 29,469762048),(2304,some 30,603979776),(256,some 31,67108865),(256,some 32,67108872),(16640,some 33,4362076160),(41216,some 34,10804527104),(65792,some 35,17246978048),(135424,some 36,35500589056),(262432,some 37,68794974208),(524320,some 38,137447342080)]) kr kr) ?_
  intro w2 S2
  refine PB.mk S2<|PL.take 0 18 (.slice la len cap) (fun _ _=>kr)<|PL.take 1 19 (iv i) (fun _ _=>kr)<|PL.takeOK 2 (fun w_ S_=>OK.index 20 26 1 la p1 len (i).toNat i (p1.add (i).toNat) kr kr hp1 om om nO) rfl<|PL.takeOK 3 (fun w_ S_=>OK.ldCell 21 3 (p1.add (i).toNat) (iv (l.getD (i).toNat 0)) kr kr (S_.cell hc1)) rfl<|PL.callF 22 71 #[iv (l.getD (i).toNat 0)] hb71 kr (far_any (l.getD (i).toNat 0) _) ?_
  rintro _ w3 ⟨rfl,T1⟩
  have S3:Sep w [] w3:=S2.trans T1
  clear T1 S2
  refine PB.mk S3<|PL.take 5 23 (.bool (!(elB (l.getD (i).toNat 0)))) (fun _ _=>kr)<|PL.head (.bool false) (congrArg Value.bool (by rw[fk4];rfl))<|PL.take 6 24 (iv i) (fun _ _=>kr)<|PL.take 7 25 (.bool (decide (i>0))) (fun _ _=>kr)<|PL.head (.bool true) (congrArg Value.bool (decide_eq_true fk5))<|PL.take 8 26 (.bool true) (fun _ _=>kr)<|PL.take 9 27 (.slice la len cap) (fun _ _=>kr)<|PL.take 10 28 (iv i) (fun _ _=>kr)<|PL.takeOK 11 (fun w_ S_=>OK.index 29 26 1 la p1 len (i).toNat i (p1.add (i).toNat) kr kr hp1 om om nO) rfl<|PL.takeOK 12 (fun w_ S_=>OK.ldCell 30 3 (p1.add (i).toNat) (iv (l.getD (i).toNat 0)) kr kr (S_.cell hc1)) rfl ?_
  refine PL.take 13 31 (.slice la len cap) (fun _ _=>kr)<|PL.take 14 32 (iv i) (fun _ _=>kr)<|PL.take 15 33 (iv (IntKind.wrap .i64 (i-1))) (fun _ _=>kr)<|PL.head (iv (i-1)) (congrArg (Value.int .i64) (IntWalk.i64_in _ om))<|PL.takeOK 16 (fun w_ S_=>OK.index 34 26 1 la p2 len (i-1).toNat (i-1) (p2.add (i-1).toNat) kr kr hp2 om om nO) rfl<|PL.takeOK 17 (fun w_ S_=>OK.ldCell 35 3 (p2.add (i-1).toNat) (iv (l.getD (i-1).toNat 0)) kr kr (S_.cell hc2)) rfl<|PL.take 18 36 (.bool (decide ((l.getD (i).toNat 0)≤(l.getD (i-1).toNat 0)))) (fun _ _=>kr)<|PL.take 19 37 (.bool (decide ((l.getD (i).toNat 0)≤(l.getD (i-1).toNat 0)))) (fun _ _=>kr)<|PL.take 20 38 (.bool (decide ((l.getD (i).toNat 0)≤(l.getD (i-1).toNat 0)))) (fun _ _=>kr)<|PL.done<|J.c 0 [] [] [] 38 ((l.getD (i).toNat 0)≤(l.getD (i-1).toNat 0)) (fun fk6=>?_) fun fk6=>?_
  refine J.e 5 [.bool false] func70 (hR _ _ ?_)
  exact⟨congrArg Value.bool (axis_bad h0 om (node_no h0 (by first | exact .inl fk4 | exact .inr ⟨om,om⟩))).symm,S3.nil⟩
  exact J.wi 6 [false] [] [] 17 (i+1)<|J.t 3 (ih1 _ (show((len:Int)-(i+1)).toNat<mm1 from by omega) (i+1) w3 om om (cW h0 hq (node_yes h0 fk4 om)) S3 rfl)
  obtain ⟨p3,hp3,hc3⟩:=hI.at 0 (i).toNat om
  refine J.drawPlan (fun w_=>Sep w [] w_) [(0,true),(1,true),(2,true),(3,true),(4,false),(5,true),(6,true),(7,true),(8,true),(9,true),(10,true),(11,true),(12,true),(13,true),(14,true),(15,true),(16,true),(17,true),(18,true),(19,true),(20,true)] S1 Tryz.mixed kr (aE (T:=[(0,some 18,1),(0,some 19,8),(3,some 20,786432),(4,some 21,1048576),(8,some 22,2097152),(16,some 23,4194304),(32,some 24,8388616),(96,some 25,25165824),(160,some 26,41943040),(256,some 27,67108865),(256,some 28,67108872),(1792,some 29,469762048),(2304,some 30,603979776),(256,some 31,67108865),(256,some 32,67108872),(16640,some 33,4362076160),(41216,some 34,10804527104),(65792,some 35,17246978048),(135424,some 36,35500589056),(262432,some 37,68794974208),(524320,some 38,137447342080)]) kr kr) ?_
  intro w4 S4
  refine PB.mk S4<|PL.take 0 18 (.slice la len cap) (fun _ _=>kr)<|PL.take 1 19 (iv i) (fun _ _=>kr)<|PL.takeOK 2 (fun w_ S_=>OK.index 20 26 1 la p3 len (i).toNat i (p3.add (i).toNat) kr kr hp3 om om nO) rfl<|PL.takeOK 3 (fun w_ S_=>OK.ldCell 21 3 (p3.add (i).toNat) (iv (l.getD (i).toNat 0)) kr kr (S_.cell hc3)) rfl<|PL.callF 22 71 #[iv (l.getD (i).toNat 0)] hb71 kr (far_any (l.getD (i).toNat 0) _) ?_
  rintro _ w5 ⟨rfl,T2⟩
  have S5:Sep w [] w5:=S4.trans T2
  clear T2 S4
  refine PB.mk S5<|PL.take 5 23 (.bool (!(elB (l.getD (i).toNat 0)))) (fun _ _=>kr)<|PL.head (.bool false) (congrArg Value.bool (by rw[fk4];rfl))<|PL.take 6 24 (iv i) (fun _ _=>kr)<|PL.take 7 25 (.bool (decide (i>0))) (fun _ _=>kr)<|PL.head (.bool false) (congrArg Value.bool (decide_eq_false fk5))<|PL.take 8 26 (.bool false) (fun _ _=>kr)<|PL.takePass 9 (some 27) kr<|PL.takePass 10 (some 28) kr<|PL.takePass 11 (some 29) kr<|PL.takePass 12 (some 30) kr ?_
  exact PL.takePass 13 (some 31) kr<|PL.takePass 14 (some 32) kr<|PL.takePass 15 (some 33) kr<|PL.takePass 16 (some 34) kr<|PL.takePass 17 (some 35) kr<|PL.takePass 18 (some 36) kr<|PL.take 19 37 (.bool false) (fun _ _=>kr)<|PL.take 20 38 (.bool false) (fun _ _=>kr)<|PL.done<|J.wi 6 [false] [] [] 17 (i+1)<|J.t 3 (ih1 _ (show((len:Int)-(i+1)).toNat<mm1 from by omega) (i+1) w5 om om (cW h0 hq (node_yes h0 fk4 om)) S5 rfl)
  obtain ⟨p4,hp4,hc4⟩:=hI.at 0 (i).toNat om
  refine J.drawPlan (fun w_=>Sep w [] w_) [(0,true),(1,true),(2,true),(3,true),(4,false),(5,true),(6,true),(7,true),(8,true),(9,true),(10,true),(11,true),(12,true),(13,true),(14,true),(15,true),(16,true),(17,true),(18,true),(19,true),(20,true)] S1 Tryz.mixed kr (aE (T:=[(0,some 18,1),(0,some 19,8),(3,some 20,786432),(4,some 21,1048576),(8,some 22,2097152),(16,some 23,4194304),(32,some 24,8388616),(96,some 25,25165824),(160,some 26,41943040),(256,some 27,67108865),(256,some 28,67108872),(1792,some 29,469762048),(2304,some 30,603979776),(256,some 31,67108865),(256,some 32,67108872),(16640,some 33,4362076160),(41216,some 34,10804527104),(65792,some 35,17246978048),(135424,some 36,35500589056),(262432,some 37,68794974208),(524320,some 38,137447342080)]) kr kr) ?_
  intro w6 S6
  refine PB.mk S6<|PL.take 0 18 (.slice la len cap) (fun _ _=>kr)<|PL.take 1 19 (iv i) (fun _ _=>kr)<|PL.takeOK 2 (fun w_ S_=>OK.index 20 26 1 la p4 len (i).toNat i (p4.add (i).toNat) kr kr hp4 om om nO) rfl<|PL.takeOK 3 (fun w_ S_=>OK.ldCell 21 3 (p4.add (i).toNat) (iv (l.getD (i).toNat 0)) kr kr (S_.cell hc4)) rfl<|PL.callF 22 71 #[iv (l.getD (i).toNat 0)] hb71 kr (far_any (l.getD (i).toNat 0) _) ?_
  rintro _ w7 ⟨rfl,T3⟩
  have S7:Sep w [] w7:=S6.trans T3
  clear T3 S6
  refine PB.mk S7<|PL.take 5 23 (.bool (!(elB (l.getD (i).toNat 0)))) (fun _ _=>kr)<|PL.head (.bool true) (congrArg Value.bool (by rw[fk4];rfl))<|PL.takePass 6 (some 24) kr<|PL.takePass 7 (some 25) kr<|PL.takePass 8 (some 26) kr<|PL.takePass 9 (some 27) kr<|PL.takePass 10 (some 28) kr<|PL.takePass 11 (some 29) kr<|PL.takePass 12 (some 30) kr<|PL.takePass 13 (some 31) kr ?_
  refine PL.takePass 14 (some 32) kr<|PL.takePass 15 (some 33) kr<|PL.takePass 16 (some 34) kr<|PL.takePass 17 (some 35) kr<|PL.takePass 18 (some 36) kr<|PL.takePass 19 (some 37) kr<|PL.take 20 38 (.bool true) (fun _ _=>kr)<|PL.done<|J.e 5 [.bool false] func70 (hR _ _ ?_)
  exact⟨congrArg Value.bool (axis_bad h0 om (node_no h0 (by first | exact .inl fk4 | exact .inr ⟨om,om⟩))).symm,S7.nil⟩
  refine J.e 6 [.bool true] func70 (hR _ _ ?_)
  exact⟨congrArg Value.bool (axis_yes om om fun j hj=>hq j om).symm,S1.nil⟩
 exact J.t 9 (L70_1 _ 0 w om om (by intro j hj;simp at hj) S0 rfl)

theorem hb148:af prog 148:=fun _ _=>by kernel_rfl

theorem farz_any (n:Int) (w:World):Ret prog 148 #[iv n] w (fun v w'=>v=.bool (!elB n)∧Sep w [] w'):=by
 refine Ret.st (N:=6) func148 fun R hR S0=>J.c0 7 [] [] [] S0 4 hb149 (element_any n _) fun w1 S1=>J.e 3 [.bool (!(elB n))] func148 (hR _ _ ?_)
 exact⟨rfl,S1.nil⟩

theorem hb152:af prog 152:=fun _ _=>by kernel_rfl
def K152_0:=adv 13 [] (bl Tryz.f152)
theorem indexI0 (la:Option Addr) (len cap:Nat) (l:List Int) (g:FuncId) (q:Int→Bool) (w:World) (hI:Ones (Value.int .i64) w la len l) (hlen:len≤9223372036854775807) (hbg:af prog g) (hcall:∀ (i:Nat) (w2:World),i<l.length→Sep w [] w2→Ret prog g #[iv (l.getD i 0)] w2 (fun v w3=>v=.bool (q (l.getD i 0))∧Sep w2 [] w3)):Ret prog 152 #[.slice la len cap,.func (.func g) #[] #[]] w (fun v w'=>v=iv (bQ q l)∧Sep w [] w'):=by
 refine Ret.st (N:=19) func152 fun R hR S0=>?_
 have L152_1:∀ (mm_:Nat) (i:Int) (w1:World),(0≤i)→(i≤(len:Int))→(∀ j,j<(i).toNat→q (l.getD j 0)=false)→Sep w [] w1→((len:Int)-i).toNat=mm_→J prog 152 19 R K152_0 [(8,iv i),(7,iv (len:Int)),(0,.slice la len cap),(1,.func (.func g) #[] #[])] w1:=by
  intro mm1
  induction mm1 using Nat.strongRecOn with
  | _ mm1 ih1 =>
  intro i w1 h0 h1 hq S1 hm1
  refine J.c 5 [] [] [] 9 (i<(len:Int)) (fun fk1=>?_) fun fk1=>?_
  refine J.r 14 [true] [(13,iv i),(12,.slice la len cap),(11,.func (.func g) #[] #[]),(5,iv i)] [] ?_
  obtain ⟨p1,hp1,hc1⟩:=hI.at 0 (i).toNat om
  refine J.ok (OK.index 14 26 1 la p1 len (i).toNat i (p1.add (i).toNat) kr kr hp1 om om nO)<|J.ok (OK.ldCell 15 3 (p1.add (i).toNat) (iv (l.getD (i).toNat 0)) kr kr (S1.cell hc1))<|J.callF 16 g #[iv (l.getD (i).toNat 0)] hbg kr (hcall (i).toNat w1 (by have:=hI.len_eq;omega) S1.nil) ?_
  rintro _ w2 ⟨rfl,T1⟩
  have S2:Sep w [] w2:=S1.trans T1
  refine J.b 1 [] [] [] 16 (q (l.getD (i).toNat 0)) (fun fk2=>?_) fun fk2=>?_
  refine J.e 6 [iv i] func152 (hR _ _ ?_)
  exact⟨by rw[cG,dl 0 i.toNat (by have:=hI.len_eq;omega) hq fk2,Int.toNat_of_nonneg h0],S2.nil⟩
  exact J.wi 5 [false] [] [] 18 (i+1)<|J.t 3 (ih1 _ (show((len:Int)-(i+1)).toNat<mm1 from by omega) (i+1) w2 om om (by intro j hj;by_cases e:j=i.toNat;(subst e;exact fk2);exact hq j om) S2 rfl)
  refine J.e 6 [iv (-1)] func152 (hR _ _ ?_)
  exact⟨by rw[cG,dC 0 fun j hj=>hq j (by have:=hI.len_eq;omega)],S1.nil⟩
 exact J.t 13 (L152_1 _ 0 w om om (by intro j hj;simp at hj) S0 rfl)

theorem hb103:af prog 103:=fun _ _=>by kernel_rfl

theorem containsI0 (la:Option Addr) (len cap:Nat) (l:List Int) (g:FuncId) (q:Int→Bool) (w:World) (hI:Ones (Value.int .i64) w la len l) (hlen:len≤9223372036854775807) (hbg:af prog g) (hcall:∀ (i:Nat) (w2:World),i<l.length→Sep w [] w2→Ret prog g #[iv (l.getD i 0)] w2 (fun v w3=>v=.bool (q (l.getD i 0))∧Sep w2 [] w3)):Ret prog 103 #[.slice la len cap,.func (.func g) #[] #[]] w (fun v w'=>v=.bool (l.any q)∧Sep w [] w'):=by
 refine Ret.st (N:=9) func103 fun R hR S0=>J.r 8 [] [(6,.func (.func g) #[] #[]),(5,.slice la len cap)] []<|J.callF 7 152 #[.slice la len cap,.func (.func g) #[] #[]] hb152 kr (indexI0 la len cap l g  q _ (hI.sep S0) oz hbg (hcall)) ?_
 rintro _ w1 ⟨rfl,T1⟩
 have S1:Sep w [] w1:=S0.trans T1
 refine J.e 3 [.bool (decide ((bQ q l)≥0))] func103 (hR _ _ ?_)
 exact⟨congrArg Value.bool (by first | exact cR),S1.nil⟩

theorem hb99:af prog 99:=fun _ _=>by kernel_rfl
def K99_0:=adv 40 [false] (bl Tryz.f99)
theorem valid_any (m:Mp) (w:World) (hm:mpQ w m):Ret prog 99 #[.agg (mpA m)] w (fun v w'=>v=.bool (co m)∧Sep w [] w'):=by
 refine Ret.st (N:=42) func99 fun R hR S0=>?_
 obtain ⟨q1,q2,q3,q4,q5,q6,q7,q8,q9,_⟩:=id hm
 have ql1:=q2.len_eq
 have ql2:=q5.len_eq
 have ql3:=q8.len_eq
 refine J.nw 2 [] [] [] S0 1 (mpC m) 62 fun b1 w1 S1=>J.lb 6 [] [] [] S1 0 rfl 6 (.slice m.cD m.aN m.dn)<|J.c0 0 [] [] [] S1 7 hb147 (axis_any m.cD m.aN m.dn m.aG _ (q2.sep S1) oz) fun w2 S2=>J.bn 2 [] [] [] 9 (cd m.aG) (fun fk1=>?_) fun fk1=>?_
 refine J.lb 1 [] [] [] S2 0 rfl 11 (.slice m.cK m.bD m.dv)<|J.c0 0 [] [] [] S2 12 hb147 (axis_any m.cK m.bD m.dv m.aY _ (q5.sep S2) oz) fun w3 S3=>J.bn 3 [] [] [] 15 (cd m.aY) (fun fk2=>?_) fun fk2=>?_
 refine J.lb 1 [] [] [] S3 0 rfl 17 (.slice m.gZ_a m.dI m.gZ_c)<|J.lb 2 [] [(18,iv (m.dI:Int))] [] S3 0 rfl 20 (.slice m.cD m.aN m.dn)<|J.cn 4 [] [] [] 23 ((m.dI:Int)=(m.aN:Int)) (fun fk3=>?_) fun fk3=>?_
 refine J.lb 6 [false] [] [] S3 0 rfl 25 (.slice m.gZ_a m.dI m.gZ_c) ?_
 have L99_1:∀ (mm_:Nat) (i:Int) (w4:World),(0≤i)→(i≤(m.dI:Int))→(∀ j,j<(i).toNat→rowB m.bD (m.bi.getD j rw0)=true)→Sep w [box b1 (mpC m) 62] w4→((m.dI:Int)-i).toNat=mm_→J prog 99 42 R K99_0 [(27,iv i),(26,iv (m.dI:Int)),(25,.slice m.gZ_a m.dI m.gZ_c),(1,pv b1)] w4:=by
  intro mm1
  induction mm1 using Nat.strongRecOn with
  | _ mm1 ih1 =>
  intro i w4 h0 h1 hq S4 hm1
  refine J.c 5 [] [] [] 28 (i<(m.dI:Int)) (fun fk4=>?_) fun fk4=>?_
  refine J.r 6 [true] [] [] ?_
  obtain ⟨p1,hp1,hc1⟩:=q8.at rw0 (i).toNat om
  have hel1:=aW q9 rw0 (n:=(i).toNat) (by have:=q8.len_eq;omega)
  obtain ⟨q10,q11,q12,_⟩:=id hel1
  have ql4:=q11.len_eq
  refine J.ok (OK.index 29 60 1 m.gZ_a p1 m.dI (i).toNat i (p1.add ((i).toNat*1)) kr kr hp1 om om rfl)<|J.ok (OK.ldCell 30 26 (p1.add ((i).toNat*1)) (.slice ((m.bi.getD (i).toNat rw0).gS_a) ((m.bi.getD (i).toNat rw0).gS_n) ((m.bi.getD (i).toNat rw0).gS_c)) kr kr (S4.cell (cell_zero (hc1 0 _ rfl))))<|J.lb 7 [] [(32,iv ((m.bi.getD (i).toNat rw0).gS_n:Int)),(4,.slice ((m.bi.getD (i).toNat rw0).gS_a) ((m.bi.getD (i).toNat rw0).gS_n) ((m.bi.getD (i).toNat rw0).gS_c))] [] S4 0 rfl 34 (.slice m.cK m.bD m.dv)<|J.cn 3 [] [] [] 37 (((m.bi.getD (i).toNat rw0).gS_n:Int)=(m.bD:Int)) (fun fk5=>?_) fun fk5=>?_
  refine J.r 1 [] [(38,.slice ((m.bi.getD (i).toNat rw0).gS_a) ((m.bi.getD (i).toNat rw0).gS_n) ((m.bi.getD (i).toNat rw0).gS_c))] []<|J.callF 39 103 #[.slice ((m.bi.getD (i).toNat rw0).gS_a) ((m.bi.getD (i).toNat rw0).gS_n) ((m.bi.getD (i).toNat rw0).gS_c),.func (.func 148) #[] #[]] hb103 kr (containsI0 ((m.bi.getD (i).toNat rw0).gS_a) ((m.bi.getD (i).toNat rw0).gS_n) ((m.bi.getD (i).toNat rw0).gS_c) ((m.bi.getD (i).toNat rw0).ch) 148  (fun x=> !elB x) _ (q11.sep S4) oz hb148 (fun i_ w_ hi_ S_=>farz_any _ w_)) ?_
  rintro _ w5 ⟨rfl,T1⟩
  have S5:Sep w [box b1 (mpC m) 62] w5:=S4.trans T1
  refine J.b 2 [] [] [] 40 (List.any ((m.bi.getD (i).toNat rw0).ch) (fun x=> !elB x)) (fun fk6=>?_) fun fk6=>?_
  refine J.e 5 [.bool false] func99 (hR _ _ ?_)
  exact⟨congrArg Value.bool (valid_bad h0 om (row_no (.inr (by rw[dF] at fk6;simpa using fk6)))).symm,S5.nil⟩
  exact J.wi 5 [false] [] [] 41 (i+1)<|J.t 3 (ih1 _ (show((m.dI:Int)-(i+1)).toNat<mm1 from by omega) (i+1) w5 om om (cW h0 hq (row_yes om (by have h_:=fk6;rw[dF] at h_;simpa using h_))) S5 rfl)
  refine J.e 9 [.bool false] func99 (hR _ _ ?_)
  exact⟨congrArg Value.bool (valid_bad h0 om (row_no (.inl om))).symm,S4.nil⟩
  refine J.e 6 [.bool true] func99 (hR _ _ ?_)
  exact⟨congrArg Value.bool (valid_yes fk1 fk2 om fun j hj=>hq j om).symm,S4.nil⟩
 exact J.t 5 (L99_1 _ 0 w3 om om (by intro j hj;simp at hj) S3 rfl)
 refine J.e 5 [.bool false] func99 (hR _ _ ?_)
 exact⟨congrArg Value.bool (valid_no (by first | exact .inl fk2 | exact .inr (.inl fk2) | exact .inr (.inr om))).symm,S3.nil⟩
 refine J.e 14 [.bool false] func99 (hR _ _ ?_)
 exact⟨congrArg Value.bool (valid_no (by first | exact .inl fk2 | exact .inr (.inl fk2) | exact .inr (.inr om))).symm,S3.nil⟩
 refine J.e 20 [.bool false] func99 (hR _ _ ?_)
 exact⟨congrArg Value.bool (valid_no (by first | exact .inl fk1 | exact .inr (.inl fk1) | exact .inr (.inr om))).symm,S2.nil⟩

theorem hb31:af prog 31:=fun _ _=>by kernel_rfl
def K31_0:=adv 37 [false] (bl Tryz.f31)
def K31_1:=adv 8 [false] (cJ (adv 15 [true] K31_0))
theorem rvalid_any (m:Mp) (w:World) (hm:mpQ w m):Ret prog 31 #[.agg (mpA m)] w (fun v w'=>v=.bool (co m)∧Sep w [] w'):=by
 refine Ret.st (N:=57) func31 fun R hR S0=>?_
 obtain ⟨q1,q2,q3,q4,q5,q6,q7,q8,q9,_⟩:=id hm
 have ql1:=q2.len_eq
 have ql2:=q5.len_eq
 have ql3:=q8.len_eq
 refine J.nw 2 [] [] [] S0 1 (mpC m) 62 fun b1 w1 S1=>J.lb 6 [] [] [] S1 0 rfl 6 (.slice m.cD m.aN m.dn)<|J.c0 0 [] [] [] S1 7 hb70 (raxis_any m.cD m.aN m.dn m.aG _ (q2.sep S1) oz) fun w2 S2=>J.bn 2 [] [] [] 9 (cd m.aG) (fun fk1=>?_) fun fk1=>?_
 refine J.lb 1 [] [] [] S2 0 rfl 11 (.slice m.cK m.bD m.dv)<|J.c0 0 [] [] [] S2 12 hb70 (raxis_any m.cK m.bD m.dv m.aY _ (q5.sep S2) oz) fun w3 S3=>J.bn 3 [] [] [] 15 (cd m.aY) (fun fk2=>?_) fun fk2=>?_
 refine J.lb 1 [] [] [] S3 0 rfl 17 (.slice m.gZ_a m.dI m.gZ_c)<|J.lb 2 [] [(18,iv (m.dI:Int))] [] S3 0 rfl 20 (.slice m.cD m.aN m.dn)<|J.cn 4 [] [] [] 23 ((m.dI:Int)=(m.aN:Int)) (fun fk3=>?_) fun fk3=>?_
 have L31_1:∀ (mm_:Nat) (i:Int) (w4:World),(0≤i)→(i≤(m.dI:Int))→(∀ j,j<(i).toNat→rowB m.bD (m.bi.getD j rw0)=true)→Sep w [box b1 (mpC m) 62] w4→((m.dI:Int)-i).toNat=mm_→J prog 31 57 R K31_0 [(3,iv i),(1,pv b1)] w4:=by
  intro mm1
  induction mm1 using Nat.strongRecOn with
  | _ mm1 ih1 =>
  intro i w4 h0 h1 hq S4 hm1
  refine J.lb 5 [] [(24,iv i)] [] S4 0 rfl 26 (.slice m.gZ_a m.dI m.gZ_c)<|J.c 3 [] [] [] 28 (i<(m.dI:Int)) (fun fk4=>?_) fun fk4=>?_
  refine J.r 6 [true] [] [] ?_
  obtain ⟨p1,hp1,hc1⟩:=q8.at rw0 (i).toNat om
  have hel1:=aW q9 rw0 (n:=(i).toNat) (by have:=q8.len_eq;omega)
  obtain ⟨q10,q11,q12,_⟩:=id hel1
  have ql4:=q11.len_eq
  refine J.drawStill S4 10 Tryz.mixed kr kr kr ?_
  intro w5 S5
  refine SL.r 31 (.pointer (some ⟨b1,2,none⟩))<|SL.lb S5 0 rfl 32 (.slice m.gZ_a m.dI m.gZ_c)<|SL.r 33 (iv i)<|SL.ok dE (OK.index 34 60 1 m.gZ_a p1 m.dI (i).toNat i (p1.add ((i).toNat*1)) kr kr hp1 om om rfl)<|SL.ok dE (OK.ldCell 35 26 (p1.add ((i).toNat*1)) (.slice ((m.bi.getD (i).toNat rw0).gS_a) ((m.bi.getD (i).toNat rw0).gS_n) ((m.bi.getD (i).toNat rw0).gS_c)) kr kr (S5.cell (cell_zero (hc1 0 _ rfl))))<|SL.r 36 (iv ((m.bi.getD (i).toNat rw0).gS_n:Int))<|SL.r 37 (.pointer (some ⟨b1,1,none⟩))<|SL.lb S5 0 rfl 38 (.slice m.cK m.bD m.dv)<|SL.r 39 (iv (m.bD:Int))<|SL.r 40 (.bool (((m.bi.getD (i).toNat rw0).gS_n:Int) != (m.bD:Int)))<|SL.done ?_
  refine TL.done kr<|J.cn 0 [] [] [] 40 (((m.bi.getD (i).toNat rw0).gS_n:Int)=(m.bD:Int)) (fun fk5=>?_) fun fk5=>?_
  have L31_2:∀ (mm_:Nat) (j:Int) (w6:World),(0≤j)→(j≤(m.bD:Int))→(∀ k,k<(j).toNat→elB ((m.bi.getD (i).toNat rw0).ch.getD k 0)=true)→Sep w [box b1 (mpC m) 62] w6→((m.bD:Int)-j).toNat=mm_→J prog 31 57 R K31_1 [(4,iv j),(3,iv i),(1,pv b1)] w6:=by
   intro mm2
   induction mm2 using Nat.strongRecOn with
   | _ mm2 ih2 =>
   intro j w6 j0 j1 hq2 S6 hm2
   refine J.lb 5 [] [(41,iv j)] [] S6 0 rfl 43 (.slice m.cK m.bD m.dv)<|J.c 3 [] [] [] 45 (j<(m.bD:Int)) (fun fk6=>?_) fun fk6=>?_
   refine J.lb 7 [true] [] [] S6 0 rfl 49 (.slice m.gZ_a m.dI m.gZ_c)<|J.r 1 [] [(50,iv i)] []<|J.ok (OK.index 51 60 1 m.gZ_a p1 m.dI (i).toNat i (p1.add ((i).toNat*1)) kr kr hp1 om om rfl)<|J.ok (OK.ldCell 52 26 (p1.add ((i).toNat*1)) (.slice ((m.bi.getD (i).toNat rw0).gS_a) ((m.bi.getD (i).toNat rw0).gS_n) ((m.bi.getD (i).toNat rw0).gS_c)) kr kr (S6.cell (cell_zero (hc1 0 _ rfl))))<|J.r 1 [] [(53,iv j)] [] ?_
   obtain ⟨p2,hp2,hc2⟩:=q11.at 0 (j).toNat om
   have hel2:=aW q12 0 (n:=(j).toNat) (by have:=q11.len_eq;omega)
   refine J.ok (OK.index 54 26 1 ((m.bi.getD (i).toNat rw0).gS_a) p2 ((m.bi.getD (i).toNat rw0).gS_n) (j).toNat j (p2.add (j).toNat) kr kr hp2 om om nO)<|J.ok (OK.ldCell 55 3 (p2.add (j).toNat) (iv (((m.bi.getD (i).toNat rw0).ch).getD (j).toNat 0)) kr kr (S6.cell hc2))<|J.c0 0 [] [] [] S6 56 hb71 (far_any (((m.bi.getD (i).toNat rw0).ch).getD (j).toNat 0) _) fun w7 S7=>J.bn 1 [] [] [] 56 (elB (((m.bi.getD (i).toNat rw0).ch).getD (j).toNat 0)) (fun fk7=>?_) fun fk7=>?_
   exact J.wi 6 [false] [] [] 47 (j+1)<|J.t 3 (ih2 _ (show((m.bD:Int)-(j+1)).toNat<mm2 from by omega) (j+1) w7 om om (cW (q:=fun k=>elB ((m.bi.getD (i).toNat rw0).ch.getD k 0)=true) j0 hq2 fk7) S7 rfl)
   refine J.e 5 [.bool false] func31 (hR _ _ ?_)
   exact⟨congrArg Value.bool (valid_bad h0 om (row_no (.inr (all_no 0 (j:=j.toNat) om fk7)))).symm,S7.nil⟩
   exact J.wi 6 [false] [] [] 30 (i+1)<|J.t 3 (ih1 _ (show((m.dI:Int)-(i+1)).toNat<mm1 from by omega) (i+1) w6 om om (cW h0 hq (row_yes om ((cL 0).2 fun k hk=>hq2 k om))) S6 rfl)
  exact J.t 8 (L31_2 _ 0 w5 om om (by intro k hk;simp at hk) S5 rfl)
  refine J.e 5 [.bool false] func31 (hR _ _ ?_)
  exact⟨congrArg Value.bool (valid_bad h0 om (row_no (.inl om))).symm,S5.nil⟩
  refine J.e 6 [.bool true] func31 (hR _ _ ?_)
  exact⟨congrArg Value.bool (valid_yes fk1 fk2 om fun j hj=>hq j om).symm,S4.nil⟩
 exact J.t 9 (L31_1 _ 0 w3 om om (by intro j hj;simp at hj) S3 rfl)
 refine J.e 5 [.bool false] func31 (hR _ _ ?_)
 exact⟨congrArg Value.bool (valid_no (by first | exact .inl fk2 | exact .inr (.inl fk2) | exact .inr (.inr om))).symm,S3.nil⟩
 refine J.e 14 [.bool false] func31 (hR _ _ ?_)
 exact⟨congrArg Value.bool (valid_no (by first | exact .inl fk2 | exact .inr (.inl fk2) | exact .inr (.inr om))).symm,S3.nil⟩
 refine J.e 20 [.bool false] func31 (hR _ _ ?_)
 exact⟨congrArg Value.bool (valid_no (by first | exact .inl fk1 | exact .inr (.inl fk1) | exact .inr (.inr om))).symm,S2.nil⟩
theorem hb188:af prog 188:=fun _ _=>by kernel_rfl
def K188_0:=adv 13 [] (bl Tryz.f188)
theorem search2 (n:Int) (g:FuncId) (c1:Value) (c2:Value) (q:Int→Bool) (w:World) (hn:0≤n∧n≤4611686018427387903) (hbg:af prog g) (hcall:∀ (i:Int) (w2:World),0≤i→i<n→Sep w [] w2→Ret prog g #[iv i,c1,c2] w2 (fun v w3=>v=.bool (q i)∧Sep w2 [] w3)):Ret prog 188 #[iv n,.func (.func g) #[] #[c1,c2]] w (fun v w'=>∃ r,v=iv r∧(0≤r∧r≤n)∧(r=0∨q (r-1)=false)∧(r=n∨q r=true)∧Sep w [] w'):=by
 refine Ret.st (N:=26) func188 fun R hR S0=>?_
 have L188_1:∀ (mm_:Nat) (i:Int) (j:Int) (w1:World),(0≤i∧i≤j∧j≤n)→(i=0∨q (i-1)=false)→(j=n∨q j=true)→Sep w [] w1→(j-i).toNat=mm_→J prog 188 26 R K188_0 [(6,iv j),(5,iv i),(1,.func (.func g) #[] #[c1,c2])] w1:=by
  intro mm1
  induction mm1 using Nat.strongRecOn with
  | _ mm1 ih1 =>
  intro i j w1 hb hi hj S1 hm1
  refine J.c 7 [] [] [] 11 (i<j) (fun fk1=>?_) fun fk1=>?_
  refine J.wi 8 [true] [] [] 14 (i+j)<|J.h 1 [] [] [] 15 (.int .u64 (IntKind.wrap .u64 (i+j))) (.int .u64 (i+j)) (congrArg (Value.int .u64) (IntWalk.u64_in _ om))<|J.h 1 [] [] [] 16 (.int .u64 (Int.fdiv (i+j) (2^1))) (.int .u64 ((i+j)/2)) (congrArg (Value.int .u64) (cw _ _ dE))<|J.wi 1 [] [] [] 17 ((i+j)/2) ?_
  obtain ⟨mid,hmid⟩:∃ x:Int,x=(i+j)/2:=⟨_,rfl⟩
  refine J.head (iv mid) (congrArg (Value.int .i64) hmid.symm)<|J.r 6 [] [(19,iv mid),(18,.func (.func g) #[] #[c1,c2]),(7,iv mid)] []<|J.callF 20 g #[iv mid,c1,c2] hbg kr (hcall mid w1 om om S1.nil) ?_
  rintro _ w2 ⟨rfl,T1⟩
  have S2:Sep w [] w2:=S1.trans T1
  refine J.bn 2 [] [] [] 21 (q mid) (fun fk2=>?_) fun fk2=>?_
  exact J.t 7 (ih1 _ (show(mid-i).toNat<mm1 from by omega) i mid w2 om (hi) (.inr fk2) S2 rfl)
  exact J.wi 4 [true] [] [] 23 (mid+1)<|J.t 4 (ih1 _ (show(j-(mid+1)).toNat<mm1 from by omega) (mid+1) j w2 om (.inr (by rw[show mid+1-1=mid by omega];exact fk2)) (hj) S2 rfl)
  refine J.e 7 [iv i] func188 (hR _ _ ?_)
  exact⟨i,rfl,om,hi,by rw[show i=j by omega];exact hj,S1.nil⟩
 exact J.t 13 (L188_1 _ 0 n w om (.inl rfl) (.inl rfl) S0 rfl)
end
end Go.Proofs.YtaoolgcddapegaaGreatDoor
