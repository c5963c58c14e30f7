/-
  DERIVED: THE SHELF's CONTRACTS AT THIS DUMP, IN PLAIN WORDS (tools/lay-plain.mjs out of 'YtadgnficogeheaaGreatDoorShelf.lean', which tools/lay-shelf.mjs wrote): THE SAME DECLARATIONS UNDER THE SAME NAMES: 'import', 'namespace', 'open', 'def', 'theorem' AND NOTHING ELSE: no command of the shelf's: FOR A HAND-IN. Each laying: the table of numbers ('.._ren') and one theorem, a field a fact of the dump's own or the kernel's comparison; each contract: ONE APPLICATION.
-/
import Derived.Shelf.Strings.Builder1
import Derived.Shelf.Strings.Builder2
import Derived.Shelf.Strings.OnBuilder
import Derived.Shelf.Strings.Trim
import Derived.Shelf.Small.Utf8
import Derived.Shelf.Small.Bits
import Derived.Shelf.Small.Strs
import Derived.Shelf.Strings.BuilderF
import Derived.Shelf.Strings.BuilderK
import Derived.Shelf.Utf8.RuneCount
import Derived.Shelf.Strings.Builder2Cap
import Derived.Shelf.Strconv.Atoi
import Derived.Shelf.Strconv.Itoa0
import Derived.Shelf.Strconv.Itoa1
import Derived.Shelf.LaysM
import Derived.Shelf.Strconv.Itoa2
import Derived.Shelf.Strconv.Itoa3
import Derived.Shelf.Strconv.AtoiErrFast
import Derived.Shelf.Strconv.ParseIntEmpty
import Derived.Shelf.Strconv.AtoiFail
import Derived.Shelf.Strconv.Clone
import Derived.Shelf.Strconv.SyntaxError
import Derived.Shelf.LaysC
import Derived.Shelf.Strconv.ToError
import Derived.Shelf.Strconv.Lower
import Derived.Shelf.Strconv.ParseUint10
import Derived.Shelf.Strconv.ParseUint10Empty
import Derived.Shelf.Strconv.ParseUint10Any
import Derived.Shelf.Strconv.ParseInt10
import Derived.Shelf.Strconv.AtoiLong
import Derived.Shelf.Strconv.AtoiInnerAll
import Derived.Shelf.Strconv.RangeError
import Derived.Shelf.Strconv.ToErrorRange
import Derived.Shelf.Strconv.AtoiAll
import Derived.Shelf.Strings.Search1
import Derived.Shelf.Strings.Search2
import Derived.Shelf.Strings.Search3
import Derived.Shelf.Strings.Count
import Derived.Shelf.Strings.Shaped
import Derived.Shelf.Strings.Prefix
import Derived.Shelf.Strings.Split
import Derived.Shelf.Strings.SplitShaped
import Derived.Shelf.Unicode.Decode
import Derived.Shelf.Strings.Runes
import Derived.Shelf.Strings.RuneCount
import Derived.Shelf.Strings.AsciiSet
import Derived.Shelf.Strings.Explode
import Derived.Shelf.Bits.Mul64
import Derived.Shelf.Unicode.DecodeSlow
import Derived.Shelf.Unicode.DecodeAny
import Derived.Shelf.Unicode.DecodeLast
import Derived.Shelf.Strings.BuilderCap
import Derived.Ground.Names2Prog
import Derived.Shelf.Slices.Clone
import Derived.Ground.SlgnProg
import Derived.Shelf.SlicesE.Clone
import Derived.Test.YtadgnficogeheaaGreatDoorProg
namespace Go.Proofs
open Go.Shelf
def Tryz.lays156_ren : Go.Shelf.Ren := ⟨fun | 156 => 38 | 165 => 53 | 166 => 54 | 169 => 55 | 240 => 75 | 241 => 76 | 276 => 93 | 277 => 94 | n => n, fun | 31 => 41 | 9 => 9 | 3 => 3 | 4 => 4 | 0 => 0 | 20 => 20 | 72 => 80 | 76 => 75 | 70 => 77 | 37 => 78 | 75 => 74 | 127 => 97 | 164 => 108 | 5 => 5 | 80 => 82 | n => n, fun | n => n⟩
theorem Tryz.lays156 : Go.Proofs.Lays.n156 Tryz.prog Tryz.lays156_ren := {
  mixed := by kernel_rfl
  f156 := Tryz.func38.trans (congrArg some (by kernel_rfl))
  f165 := Tryz.func53.trans (congrArg some (by kernel_rfl))
  f166 := Tryz.func54.trans (congrArg some (by kernel_rfl))
  f169 := Tryz.func55.trans (congrArg some (by kernel_rfl))
  f240 := Tryz.func75.trans (congrArg some (by kernel_rfl))
  f241 := Tryz.func76.trans (congrArg some (by kernel_rfl))
  f276 := Tryz.func93.trans (congrArg some (by kernel_rfl))
  f277 := Tryz.func94.trans (congrArg some (by kernel_rfl))
  t0 := Tryz.underlying0
  a0 := Tryz.isAgg0
  z0 := Tryz.sizeOf0
  v0 := Tryz.zeroValue0
  t3 := Tryz.underlying3
  a3 := Tryz.isAgg3
  z3 := Tryz.sizeOf3
  v3 := Tryz.zeroValue3
  t4 := Tryz.underlying4
  a4 := Tryz.isAgg4
  z4 := Tryz.sizeOf4
  v4 := Tryz.zeroValue4
  t9 := Tryz.underlying9
  a9 := Tryz.isAgg9
  z9 := Tryz.sizeOf9
  v9 := Tryz.zeroValue9
  t20 := Tryz.underlying20
  a20 := Tryz.isAgg20
  z20 := Tryz.sizeOf20
  v20 := Tryz.zeroValue20
  t31 := Tryz.underlying41
  a31 := Tryz.isAgg41
  z31 := Tryz.sizeOf41
  v31 := Tryz.zeroValue41
  t37 := Tryz.underlying78
  a37 := Tryz.isAgg78
  z37 := Tryz.sizeOf78
  v37 := Tryz.zeroValue78
  t70 := Tryz.underlying77
  a70 := Tryz.isAgg77
  z70 := Tryz.sizeOf77
  v70 := Tryz.zeroValue77
  t72 := Tryz.underlying80
  a72 := Tryz.isAgg80
  z72 := Tryz.sizeOf80
  v72 := Tryz.zeroValue80
  t75 := Tryz.underlying74
  a75 := Tryz.isAgg74
  z75 := Tryz.sizeOf74
  v75 := Tryz.zeroValue74
  t76 := Tryz.underlying75
  a76 := Tryz.isAgg75
  z76 := Tryz.sizeOf75
  v76 := Tryz.zeroValue75
  t127 := Tryz.underlying97
  a127 := Tryz.isAgg97
  z127 := Tryz.sizeOf97
  v127 := Tryz.zeroValue97
  t164 := Tryz.underlying108
  a164 := Tryz.isAgg108
  z164 := Tryz.sizeOf108
  v164 := Tryz.zeroValue108 }
theorem Tryz.Builder_Extra_156 : Builder.Extra Tryz.prog Tryz.lays156_ren := {
  sizeBuilder := by kernel_rfl
  liesBuilder := by kernel_rfl
  t5 := Tryz.underlying5
  a5 := Tryz.isAgg5
  z5 := Tryz.sizeOf5
  v5 := Tryz.zeroValue5
  infoByte := by kernel_rfl
  cellsByte := by kernel_rfl
  sizeByte := by kernel_rfl
  neB5 := by decide }
open Go.RowKit in
/-- No element: the empty string; the world is as it was. (Whatever the slice's address and capacity: a nil slice too.) (LAID: no walk: one application.) -/
theorem Tryz.strings_Join_none (a : Option Addr) (c : Nat) (sep : ByteArray) (w : World) :
    Calls Tryz.prog 38 #[.slice a 0 c, .string sep] w fun e w' => e = .returned (.string ⟨#[]⟩) ∧ w' = w := Any.strings_Join_none Tryz.lays156 Tryz.Builder_Extra_156 a c sep w
open Go.RowKit in
/-- strings.Join: "Join concatenates the elements of its first argument to create a single string. The separator string sep is placed between elements in the resulting string.": HOWEVER MANY ELEMENTS. Below the heap's end the world is as it was. (LAID: no walk: one application.) -/
theorem Tryz.strings_Join (bk o c : Nat) (xs : List ByteArray) (sep : ByteArray) (w : World) (hcells : ∀ (j : Nat) x, xs[j]? = some x → w.cell? ⟨bk, o + j, none⟩ = some (.string x)) (hbk : bk < w.heap.size) (hN : xs.length ≤ 140737488355328) (hcap : xs.length ≤ c) (hlen : (Lib.join (xs.map (·.data.toList)) sep.data.toList).length ≤ 140737488355328) :
    Calls Tryz.prog 38 #[.slice (some ⟨bk, o, none⟩) xs.length c, .string sep] w fun e w' => e = .returned (.string ⟨(Lib.join (xs.map (·.data.toList)) sep.data.toList).toArray⟩) ∧ Below w.heap.size w w' := Any.strings_Join Tryz.lays156 Tryz.Builder_Extra_156 bk o c xs sep w hcells hbk hN hcap hlen
def Tryz.lays160_ren : Go.Shelf.Ren := ⟨fun | 160 => 51 | 232 => 67 | 231 => 66 | 227 => 68 | 234 => 70 | 233 => 69 | 236 => 72 | 235 => 71 | 228 => 85 | 271 => 87 | 151 => 86 | 197 => 62 | 120 => 100 | 152 => 99 | 260 => 79 | 137 => 112 | 119 => 113 | 224 => 82 | 225 => 81 | 217 => 80 | 266 => 97 | n => n, fun | 9 => 9 | 4 => 4 | 3 => 3 | 5 => 5 | 117 => 92 | 116 => 91 | 0 => 0 | 124 => 95 | 21 => 21 | 105 => 86 | 46 => 98 | 119 => 113 | 139 => 116 | 138 => 115 | n => n, fun | 3 => 1 | 4 => 2 | n => n⟩
theorem Tryz.lays160 : Go.Proofs.Lays.n160 Tryz.prog Tryz.lays160_ren := {
  mixed := by kernel_rfl
  f119 := Tryz.func113.trans (congrArg some (by kernel_rfl))
  f120 := Tryz.func100.trans (congrArg some (by kernel_rfl))
  f137 := Tryz.func112.trans (congrArg some (by kernel_rfl))
  f151 := Tryz.func86.trans (congrArg some (by kernel_rfl))
  f152 := Tryz.func99.trans (congrArg some (by kernel_rfl))
  f160 := Tryz.func51.trans (congrArg some (by kernel_rfl))
  f197 := Tryz.func62.trans (congrArg some (by kernel_rfl))
  f217 := Tryz.func80.trans (congrArg some (by kernel_rfl))
  f224 := Tryz.func82.trans (congrArg some (by kernel_rfl))
  f225 := Tryz.func81.trans (congrArg some (by kernel_rfl))
  f227 := Tryz.func68.trans (congrArg some (by kernel_rfl))
  f228 := Tryz.func85.trans (congrArg some (by kernel_rfl))
  f231 := Tryz.func66.trans (congrArg some (by kernel_rfl))
  f232 := Tryz.func67.trans (congrArg some (by kernel_rfl))
  f233 := Tryz.func69.trans (congrArg some (by kernel_rfl))
  f234 := Tryz.func70.trans (congrArg some (by kernel_rfl))
  f235 := Tryz.func71.trans (congrArg some (by kernel_rfl))
  f236 := Tryz.func72.trans (congrArg some (by kernel_rfl))
  f260 := Tryz.func79.trans (congrArg some (by kernel_rfl))
  f266 := Tryz.func97.trans (congrArg some (by kernel_rfl))
  f271 := Tryz.func87.trans (congrArg some (by kernel_rfl))
  t0 := Tryz.underlying0
  a0 := Tryz.isAgg0
  z0 := Tryz.sizeOf0
  v0 := Tryz.zeroValue0
  t3 := Tryz.underlying3
  a3 := Tryz.isAgg3
  z3 := Tryz.sizeOf3
  v3 := Tryz.zeroValue3
  t4 := Tryz.underlying4
  a4 := Tryz.isAgg4
  z4 := Tryz.sizeOf4
  v4 := Tryz.zeroValue4
  t5 := Tryz.underlying5
  a5 := Tryz.isAgg5
  z5 := Tryz.sizeOf5
  v5 := Tryz.zeroValue5
  t9 := Tryz.underlying9
  a9 := Tryz.isAgg9
  z9 := Tryz.sizeOf9
  v9 := Tryz.zeroValue9
  t21 := Tryz.underlying21
  a21 := Tryz.isAgg21
  z21 := Tryz.sizeOf21
  v21 := Tryz.zeroValue21
  t46 := Tryz.underlying98
  a46 := Tryz.isAgg98
  z46 := Tryz.sizeOf98
  v46 := Tryz.zeroValue98
  t105 := Tryz.underlying86
  a105 := Tryz.isAgg86
  z105 := Tryz.sizeOf86
  v105 := Tryz.zeroValue86
  t116 := Tryz.underlying91
  a116 := Tryz.isAgg91
  z116 := Tryz.sizeOf91
  t117 := Tryz.underlying92
  a117 := Tryz.isAgg92
  z117 := Tryz.sizeOf92
  v117 := Tryz.zeroValue92
  t119 := Tryz.underlying113
  a119 := Tryz.isAgg113
  z119 := Tryz.sizeOf113
  t124 := Tryz.underlying95
  a124 := Tryz.isAgg95
  z124 := Tryz.sizeOf95
  v124 := Tryz.zeroValue95
  t138 := Tryz.underlying115
  a138 := Tryz.isAgg115
  z138 := Tryz.sizeOf115
  v138 := Tryz.zeroValue115
  t139 := Tryz.underlying116
  a139 := Tryz.isAgg116
  z139 := Tryz.sizeOf116
  v139 := Tryz.zeroValue116
  g3 := by kernel_rfl
  g4 := by kernel_rfl }
def Tryz.laysM171_ren : Go.Shelf.Ren := ⟨fun | 171 => 56 | 243 => 77 | 246 => 95 | 283 => 104 | 284 => 105 | 285 => 106 | 286 => 107 | 129 => 117 | 317 => 116 | 318 => 118 | 319 => 119 | 320 => 120 | 337 => 122 | 338 => 123 | n => n, fun | 3 => 3 | 9 => 9 | 2 => 2 | 4 => 4 | 171 => 128 | 0 => 0 | 53 => 121 | 37 => 78 | 5 => 5 | 173 => 131 | 212 => 144 | 51 => 117 | 20 => 20 | 213 => 145 | 46 => 98 | 232 => 148 | 233 => 149 | n => n, fun | 17 => 5 | 18 => 8 | 19 => 9 | n => n⟩
theorem Tryz.laysM171 : Go.Proofs.LaysM.n171 Tryz.prog Tryz.laysM171_ren := {
  mixed := by kernel_rfl
  f129 := Tryz.func117.trans (congrArg some (by kernel_rfl))
  f171 := Tryz.func56.trans (congrArg some (by kernel_rfl))
  f243 := Tryz.func77.trans (congrArg some (by kernel_rfl))
  f246 := Tryz.func95.trans (congrArg some (by kernel_rfl))
  f283 := Tryz.func104.trans (congrArg some (by kernel_rfl))
  f284 := Tryz.func105.trans (congrArg some (by kernel_rfl))
  f285 := Tryz.func106.trans (congrArg some (by kernel_rfl))
  f286 := Tryz.func107.trans (congrArg some (by kernel_rfl))
  f317 := Tryz.func116.trans (congrArg some (by kernel_rfl))
  f318 := Tryz.func118.trans (congrArg some (by kernel_rfl))
  f319 := Tryz.func119.trans (congrArg some (by kernel_rfl))
  f320 := Tryz.func120.trans (congrArg some (by kernel_rfl))
  f337 := Tryz.func122.trans (congrArg some (by kernel_rfl))
  f338 := Tryz.func123.trans (congrArg some (by kernel_rfl))
  t0 := Tryz.underlying0
  a0 := Tryz.isAgg0
  z0 := Tryz.sizeOf0
  v0 := Tryz.zeroValue0
  t2 := Tryz.underlying2
  a2 := Tryz.isAgg2
  z2 := Tryz.sizeOf2
  v2 := Tryz.zeroValue2
  t3 := Tryz.underlying3
  a3 := Tryz.isAgg3
  z3 := Tryz.sizeOf3
  v3 := Tryz.zeroValue3
  t4 := Tryz.underlying4
  a4 := Tryz.isAgg4
  z4 := Tryz.sizeOf4
  v4 := Tryz.zeroValue4
  t5 := Tryz.underlying5
  a5 := Tryz.isAgg5
  z5 := Tryz.sizeOf5
  v5 := Tryz.zeroValue5
  t9 := Tryz.underlying9
  a9 := Tryz.isAgg9
  z9 := Tryz.sizeOf9
  v9 := Tryz.zeroValue9
  t20 := Tryz.underlying20
  a20 := Tryz.isAgg20
  z20 := Tryz.sizeOf20
  v20 := Tryz.zeroValue20
  t37 := Tryz.underlying78
  a37 := Tryz.isAgg78
  z37 := Tryz.sizeOf78
  v37 := Tryz.zeroValue78
  t46 := Tryz.underlying98
  a46 := Tryz.isAgg98
  z46 := Tryz.sizeOf98
  v46 := Tryz.zeroValue98
  t51 := Tryz.underlying117
  a51 := Tryz.isAgg117
  z51 := Tryz.sizeOf117
  v51 := Tryz.zeroValue117
  t53 := Tryz.underlying121
  a53 := Tryz.isAgg121
  z53 := Tryz.sizeOf121
  v53 := Tryz.zeroValue121
  t171 := Tryz.underlying128
  a171 := Tryz.isAgg128
  z171 := Tryz.sizeOf128
  v171 := Tryz.zeroValue128
  t173 := Tryz.underlying131
  a173 := Tryz.isAgg131
  z173 := Tryz.sizeOf131
  v173 := Tryz.zeroValue131
  t212 := Tryz.underlying144
  a212 := Tryz.isAgg144
  z212 := Tryz.sizeOf144
  v212 := Tryz.zeroValue144
  t213 := Tryz.underlying145
  a213 := Tryz.isAgg145
  z213 := Tryz.sizeOf145
  t232 := Tryz.underlying148
  a232 := Tryz.isAgg148
  z232 := Tryz.sizeOf148
  v232 := Tryz.zeroValue148
  t233 := Tryz.underlying149
  a233 := Tryz.isAgg149
  z233 := Tryz.sizeOf149
  v233 := Tryz.zeroValue149
  g17 := by kernel_rfl
  g18 := by kernel_rfl
  g19 := by kernel_rfl
  i0 := by kernel_rfl
  i2 := by kernel_rfl
  i3 := by kernel_rfl
  i4 := by kernel_rfl
  i5 := by kernel_rfl
  i9 := by kernel_rfl
  i20 := by kernel_rfl
  i37 := by kernel_rfl
  i46 := by kernel_rfl
  i51 := by kernel_rfl
  i53 := by kernel_rfl
  i171 := by kernel_rfl
  i173 := by kernel_rfl
  i212 := by kernel_rfl
  i232 := by kernel_rfl
  i233 := by kernel_rfl
  m17 := by kernel_rfl
  m18 := by kernel_rfl
  m19 := by kernel_rfl }
open Go.RowKit Go.Sort Go.Lib in
/-- strconv.Itoa: "Itoa is equivalent to FormatInt(int64(i), 10).": i's DECIMAL NUMERAL ('Lib.itoa': a '-' where i is negative, then the digits), FOR EVERY int. The world behind the call: the world before it, new blocks behind the heap (the library's 'var a [24]byte'), draws. (LAID: no walk: one application.) -/
theorem Tryz.strconv_Itoa (n : Int) (h0 : -9223372036854775808 ≤ n) (h1 : n ≤ 9223372036854775807) (w : World) (htab : Lib.TabIs Tryz.prog w "internal/strconv.uint64pow10" .u64 Lib.pow10Tab) :
    Calls Tryz.prog 56 #[.int .i64 n] w fun e w' => e = .returned (.string ⟨(Lib.itoa n).toArray⟩) ∧ ∃ k os, w' = grow (w.drewN k) os := Any.strconv_Itoa Tryz.laysM171 n h0 h1 w htab
def Tryz.laysC172_ren : Go.Shelf.Ren := ⟨fun | 172 => 52 | 244 => 73 | 245 => 74 | 247 => 88 | 279 => 89 | 280 => 90 | 281 => 91 | 282 => 92 | 287 => 101 | 316 => 102 | 171 => 56 | 205 => 103 | 321 => 114 | 322 => 115 | 243 => 77 | 246 => 95 | 283 => 104 | 284 => 105 | 285 => 106 | 286 => 107 | 129 => 117 | 317 => 116 | 318 => 118 | 319 => 119 | 320 => 120 | 337 => 122 | 338 => 123 | n => n, fun | 9 => 9 | 3 => 3 | 75 => 74 | 76 => 75 | 4 => 4 | 5 => 5 | 167 => 102 | 37 => 78 | 0 => 0 | 85 => 103 | 2 => 2 | 168 => 105 | 53 => 121 | 175 => 122 | 46 => 98 | 210 => 126 | 127 => 97 | 145 => 142 | 143 => 140 | 21 => 21 | 171 => 128 | 173 => 131 | 212 => 144 | 51 => 117 | 20 => 20 | 213 => 145 | 232 => 148 | 233 => 149 | 80 => 82 | n => n, fun | 15 => 3 | 16 => 4 | 17 => 5 | 18 => 8 | 19 => 9 | n => n⟩
theorem Tryz.laysC172 : Go.Proofs.LaysC.n172 Tryz.prog Tryz.laysC172_ren := {
  mixed := by kernel_rfl
  f129 := Tryz.func117.trans (congrArg some (by kernel_rfl))
  f171 := Tryz.func56.trans (congrArg some (by kernel_rfl))
  f172 := Tryz.func52.trans (congrArg some (by kernel_rfl))
  f205 := Tryz.func103.trans (congrArg some (by kernel_rfl))
  f243 := Tryz.func77.trans (congrArg some (by kernel_rfl))
  f244 := Tryz.func73.trans (congrArg some (by kernel_rfl))
  f245 := Tryz.func74.trans (congrArg some (by kernel_rfl))
  f246 := Tryz.func95.trans (congrArg some (by kernel_rfl))
  f247 := Tryz.func88.trans (congrArg some (by kernel_rfl))
  f279 := Tryz.func89.trans (congrArg some (by kernel_rfl))
  f280 := Tryz.func90.trans (congrArg some (by kernel_rfl))
  f281 := Tryz.func91.trans (congrArg some (by kernel_rfl))
  f282 := Tryz.func92.trans (congrArg some (by kernel_rfl))
  f283 := Tryz.func104.trans (congrArg some (by kernel_rfl))
  f284 := Tryz.func105.trans (congrArg some (by kernel_rfl))
  f285 := Tryz.func106.trans (congrArg some (by kernel_rfl))
  f286 := Tryz.func107.trans (congrArg some (by kernel_rfl))
  f287 := Tryz.func101.trans (congrArg some (by kernel_rfl))
  f316 := Tryz.func102.trans (congrArg some (by kernel_rfl))
  f317 := Tryz.func116.trans (congrArg some (by kernel_rfl))
  f318 := Tryz.func118.trans (congrArg some (by kernel_rfl))
  f319 := Tryz.func119.trans (congrArg some (by kernel_rfl))
  f320 := Tryz.func120.trans (congrArg some (by kernel_rfl))
  f321 := Tryz.func114.trans (congrArg some (by kernel_rfl))
  f322 := Tryz.func115.trans (congrArg some (by kernel_rfl))
  f337 := Tryz.func122.trans (congrArg some (by kernel_rfl))
  f338 := Tryz.func123.trans (congrArg some (by kernel_rfl))
  t0 := Tryz.underlying0
  a0 := Tryz.isAgg0
  z0 := Tryz.sizeOf0
  v0 := Tryz.zeroValue0
  t2 := Tryz.underlying2
  a2 := Tryz.isAgg2
  z2 := Tryz.sizeOf2
  v2 := Tryz.zeroValue2
  t3 := Tryz.underlying3
  a3 := Tryz.isAgg3
  z3 := Tryz.sizeOf3
  v3 := Tryz.zeroValue3
  t4 := Tryz.underlying4
  a4 := Tryz.isAgg4
  z4 := Tryz.sizeOf4
  v4 := Tryz.zeroValue4
  t5 := Tryz.underlying5
  a5 := Tryz.isAgg5
  z5 := Tryz.sizeOf5
  v5 := Tryz.zeroValue5
  t9 := Tryz.underlying9
  a9 := Tryz.isAgg9
  z9 := Tryz.sizeOf9
  v9 := Tryz.zeroValue9
  t20 := Tryz.underlying20
  a20 := Tryz.isAgg20
  z20 := Tryz.sizeOf20
  v20 := Tryz.zeroValue20
  t21 := Tryz.underlying21
  a21 := Tryz.isAgg21
  z21 := Tryz.sizeOf21
  v21 := Tryz.zeroValue21
  t37 := Tryz.underlying78
  a37 := Tryz.isAgg78
  z37 := Tryz.sizeOf78
  v37 := Tryz.zeroValue78
  t46 := Tryz.underlying98
  a46 := Tryz.isAgg98
  z46 := Tryz.sizeOf98
  v46 := Tryz.zeroValue98
  t51 := Tryz.underlying117
  a51 := Tryz.isAgg117
  z51 := Tryz.sizeOf117
  v51 := Tryz.zeroValue117
  t53 := Tryz.underlying121
  a53 := Tryz.isAgg121
  z53 := Tryz.sizeOf121
  v53 := Tryz.zeroValue121
  t75 := Tryz.underlying74
  a75 := Tryz.isAgg74
  z75 := Tryz.sizeOf74
  v75 := Tryz.zeroValue74
  t76 := Tryz.underlying75
  a76 := Tryz.isAgg75
  z76 := Tryz.sizeOf75
  v76 := Tryz.zeroValue75
  t85 := Tryz.underlying103
  a85 := Tryz.isAgg103
  z85 := Tryz.sizeOf103
  v85 := Tryz.zeroValue103
  t127 := Tryz.underlying97
  a127 := Tryz.isAgg97
  z127 := Tryz.sizeOf97
  v127 := Tryz.zeroValue97
  t143 := Tryz.underlying140
  a143 := Tryz.isAgg140
  z143 := Tryz.sizeOf140
  v143 := Tryz.zeroValue140
  t145 := Tryz.underlying142
  a145 := Tryz.isAgg142
  z145 := Tryz.sizeOf142
  v145 := Tryz.zeroValue142
  t167 := Tryz.underlying102
  a167 := Tryz.isAgg102
  z167 := Tryz.sizeOf102
  v167 := Tryz.zeroValue102
  t168 := Tryz.underlying105
  a168 := Tryz.isAgg105
  z168 := Tryz.sizeOf105
  v168 := Tryz.zeroValue105
  t171 := Tryz.underlying128
  a171 := Tryz.isAgg128
  z171 := Tryz.sizeOf128
  v171 := Tryz.zeroValue128
  t173 := Tryz.underlying131
  a173 := Tryz.isAgg131
  z173 := Tryz.sizeOf131
  v173 := Tryz.zeroValue131
  t175 := Tryz.underlying122
  a175 := Tryz.isAgg122
  z175 := Tryz.sizeOf122
  v175 := Tryz.zeroValue122
  t210 := Tryz.underlying126
  a210 := Tryz.isAgg126
  z210 := Tryz.sizeOf126
  v210 := Tryz.zeroValue126
  t212 := Tryz.underlying144
  a212 := Tryz.isAgg144
  z212 := Tryz.sizeOf144
  v212 := Tryz.zeroValue144
  t213 := Tryz.underlying145
  a213 := Tryz.isAgg145
  z213 := Tryz.sizeOf145
  t232 := Tryz.underlying148
  a232 := Tryz.isAgg148
  z232 := Tryz.sizeOf148
  v232 := Tryz.zeroValue148
  t233 := Tryz.underlying149
  a233 := Tryz.isAgg149
  z233 := Tryz.sizeOf149
  v233 := Tryz.zeroValue149
  g15 := by kernel_rfl
  g16 := by kernel_rfl
  g17 := by kernel_rfl
  g18 := by kernel_rfl
  g19 := by kernel_rfl
  t80 := Tryz.underlying82
  a80 := Tryz.isAgg82
  z80 := Tryz.sizeOf82
  v80 := Tryz.zeroValue82
  i0 := by kernel_rfl
  i2 := by kernel_rfl
  i3 := by kernel_rfl
  i4 := by kernel_rfl
  i5 := by kernel_rfl
  i9 := by kernel_rfl
  i20 := by kernel_rfl
  i21 := by kernel_rfl
  i37 := by kernel_rfl
  i46 := by kernel_rfl
  i51 := by kernel_rfl
  i53 := by kernel_rfl
  i75 := by kernel_rfl
  i76 := by kernel_rfl
  i80 := by kernel_rfl
  i85 := by kernel_rfl
  i127 := by kernel_rfl
  i143 := by kernel_rfl
  i145 := by kernel_rfl
  i167 := by kernel_rfl
  i168 := by kernel_rfl
  i171 := by kernel_rfl
  i173 := by kernel_rfl
  i175 := by kernel_rfl
  i210 := by kernel_rfl
  i212 := by kernel_rfl
  i232 := by kernel_rfl
  i233 := by kernel_rfl
  m15 := by kernel_rfl
  m16 := by kernel_rfl
  m17 := by kernel_rfl
  m18 := by kernel_rfl
  m19 := by kernel_rfl
  c0 := by kernel_rfl
  c2 := by kernel_rfl
  c3 := by kernel_rfl
  c4 := by kernel_rfl
  c5 := by kernel_rfl
  c9 := by kernel_rfl
  c20 := by kernel_rfl
  c21 := by kernel_rfl
  c37 := by kernel_rfl
  c46 := by kernel_rfl
  c51 := by kernel_rfl
  c53 := by kernel_rfl
  c75 := by kernel_rfl
  c76 := by kernel_rfl
  c80 := by kernel_rfl
  c85 := by kernel_rfl
  c127 := by kernel_rfl
  c143 := by kernel_rfl
  c145 := by kernel_rfl
  c167 := by kernel_rfl
  c168 := by kernel_rfl
  c171 := by kernel_rfl
  c173 := by kernel_rfl
  c175 := by kernel_rfl
  c210 := by kernel_rfl
  c212 := by kernel_rfl
  c213 := by kernel_rfl
  c232 := by kernel_rfl
  c233 := by kernel_rfl }
open Go.RowKit in
/-- strconv.Atoi, AT EVERY STRING THAT SPELLS AN int ('Lib.atoiAll .. = .ok v'; of whatever length: leading zeros count): v, AND NO ERROR. The world: as it was, or with the one new row that '[]byte(..)' lays. (LAID: no walk: one application.) -/
theorem Tryz.strconv_Atoi_ok (s : ByteArray) (hmax : s.size ≤ 9223372036854775806) (v : Int) (h : Lib.atoiAll s.data.toList = .ok v) (w : World) :
    Calls Tryz.prog 52 #[.string s] w fun e w' => e = .returned (.tuple #[.int .i64 v, .nilIface]) ∧ (w' = w ∨ ∃ t, w' = Lib.bytesWorld w 5 t) := Any.strconv_Atoi_ok Tryz.laysC172 s hmax v h w
open Go.RowKit in
/-- strconv.Atoi, AT EVERY NUMERAL THAT NO int HOLDS ('.range'): THE GREATEST OR THE LEAST int, BY THE SIGN ('Lib.atoiSat'), AND AN ERROR THAT IS NOT nil: a *NumError in a new block N: {Func: "Atoi", Num: s's bytes, Err: what the variable ErrRange holds}. Of what was there nothing has turned. (LAID: no walk: one application.) -/
theorem Tryz.strconv_Atoi_range (s : ByteArray) (hlim : s.size ≤ 281474976710656) (h : Lib.atoiAll s.data.toList = .range) (ev : Value) (w : World) (hv : w.cell? ⟨4, 0, none⟩ = some ev) (hev : ev = .nilIface ∨ ∃ te pe, ev = .iface te pe) :
    Calls Tryz.prog 52 #[.string s] w fun e w' => ∃ N, e = .returned (.tuple #[.int .i64 (Lib.atoiSat s.data.toList), .iface 105 (.pointer (some ⟨N, 0, none⟩))]) ∧ w.heap.size ≤ N ∧ w'.heap[N]? = some (.cells #[.string ⟨#[65, 116, 111, 105]⟩, .string s, ev] 126 (0, 0)) ∧ Below w.heap.size w w' := Any.strconv_Atoi_range Tryz.laysC172 s hlim h ev w hv hev
def Tryz.lays101_ren : Go.Shelf.Ren := ⟨fun | 101 => 50 | 208 => 65 | 206 => 84 | n => n, fun | 9 => 9 | 4 => 4 | 3 => 3 | n => n, fun | n => n⟩
theorem Tryz.lays101 : Go.Proofs.Lays.n101 Tryz.prog Tryz.lays101_ren := {
  mixed := by kernel_rfl
  f101 := Tryz.func50.trans (congrArg some (by kernel_rfl))
  f206 := Tryz.func84.trans (congrArg some (by kernel_rfl))
  f208 := Tryz.func65.trans (congrArg some (by kernel_rfl))
  t3 := Tryz.underlying3
  a3 := Tryz.isAgg3
  z3 := Tryz.sizeOf3
  v3 := Tryz.zeroValue3
  t4 := Tryz.underlying4
  a4 := Tryz.isAgg4
  z4 := Tryz.sizeOf4
  v4 := Tryz.zeroValue4
  t9 := Tryz.underlying9
  a9 := Tryz.isAgg9
  z9 := Tryz.sizeOf9
  v9 := Tryz.zeroValue9 }
open Go.RowKit Go.Lib in
/-- strings.TrimPrefix: "TrimPrefix returns s without the provided leading prefix string. If s doesn't start with prefix, s is returned unchanged.": IT RETURNS 'Lib.trimPrefix s prefix'; the world is as it was. (LAID: no walk: one application.) -/
theorem Tryz.strings_TrimPrefix (s p : ByteArray) (w : World) :
    Calls Tryz.prog 50 #[.string s, .string p] w fun e w' => e = .returned (.string ⟨(Lib.trimPrefix s.data.toList p.data.toList).toArray⟩) ∧ w' = w := Any.strings_TrimPrefix Tryz.lays101 s p w
def Tryz.lays146_ren : Go.Shelf.Ren := ⟨fun | 146 => 17 | 221 => 31 | 268 => 46 | 138 => 47 | 143 => 48 | 195 => 61 | 197 => 62 | 218 => 63 | 219 => 64 | 260 => 79 | 217 => 80 | 225 => 81 | 224 => 82 | 267 => 83 | 266 => 97 | 314 => 98 | n => n, fun | 9 => 9 | 31 => 41 | 3 => 3 | 4 => 4 | 0 => 0 | 105 => 86 | 21 => 21 | 5 => 5 | 46 => 98 | 119 => 113 | 139 => 116 | 138 => 115 | 146 => 118 | 51 => 117 | n => n, fun | 1 => 0 | 3 => 1 | 4 => 2 | n => n⟩
theorem Tryz.lays146 : Go.Proofs.Lays.n146 Tryz.prog Tryz.lays146_ren := {
  mixed := by kernel_rfl
  f138 := Tryz.func47.trans (congrArg some (by kernel_rfl))
  f143 := Tryz.func48.trans (congrArg some (by kernel_rfl))
  f146 := Tryz.func17.trans (congrArg some (by kernel_rfl))
  f195 := Tryz.func61.trans (congrArg some (by kernel_rfl))
  f197 := Tryz.func62.trans (congrArg some (by kernel_rfl))
  f217 := Tryz.func80.trans (congrArg some (by kernel_rfl))
  f218 := Tryz.func63.trans (congrArg some (by kernel_rfl))
  f219 := Tryz.func64.trans (congrArg some (by kernel_rfl))
  f221 := Tryz.func31.trans (congrArg some (by kernel_rfl))
  f224 := Tryz.func82.trans (congrArg some (by kernel_rfl))
  f225 := Tryz.func81.trans (congrArg some (by kernel_rfl))
  f260 := Tryz.func79.trans (congrArg some (by kernel_rfl))
  f266 := Tryz.func97.trans (congrArg some (by kernel_rfl))
  f267 := Tryz.func83.trans (congrArg some (by kernel_rfl))
  f268 := Tryz.func46.trans (congrArg some (by kernel_rfl))
  f314 := Tryz.func98.trans (congrArg some (by kernel_rfl))
  t0 := Tryz.underlying0
  a0 := Tryz.isAgg0
  z0 := Tryz.sizeOf0
  v0 := Tryz.zeroValue0
  t3 := Tryz.underlying3
  a3 := Tryz.isAgg3
  z3 := Tryz.sizeOf3
  v3 := Tryz.zeroValue3
  t4 := Tryz.underlying4
  a4 := Tryz.isAgg4
  z4 := Tryz.sizeOf4
  v4 := Tryz.zeroValue4
  t5 := Tryz.underlying5
  a5 := Tryz.isAgg5
  z5 := Tryz.sizeOf5
  v5 := Tryz.zeroValue5
  t9 := Tryz.underlying9
  a9 := Tryz.isAgg9
  z9 := Tryz.sizeOf9
  v9 := Tryz.zeroValue9
  t21 := Tryz.underlying21
  a21 := Tryz.isAgg21
  z21 := Tryz.sizeOf21
  v21 := Tryz.zeroValue21
  t31 := Tryz.underlying41
  a31 := Tryz.isAgg41
  z31 := Tryz.sizeOf41
  v31 := Tryz.zeroValue41
  t46 := Tryz.underlying98
  a46 := Tryz.isAgg98
  z46 := Tryz.sizeOf98
  v46 := Tryz.zeroValue98
  t51 := Tryz.underlying117
  a51 := Tryz.isAgg117
  z51 := Tryz.sizeOf117
  v51 := Tryz.zeroValue117
  t105 := Tryz.underlying86
  a105 := Tryz.isAgg86
  z105 := Tryz.sizeOf86
  v105 := Tryz.zeroValue86
  t119 := Tryz.underlying113
  a119 := Tryz.isAgg113
  z119 := Tryz.sizeOf113
  t138 := Tryz.underlying115
  a138 := Tryz.isAgg115
  z138 := Tryz.sizeOf115
  v138 := Tryz.zeroValue115
  t139 := Tryz.underlying116
  a139 := Tryz.isAgg116
  z139 := Tryz.sizeOf116
  v139 := Tryz.zeroValue116
  t146 := Tryz.underlying118
  a146 := Tryz.isAgg118
  z146 := Tryz.sizeOf118
  v146 := Tryz.zeroValue118
  g1 := by kernel_rfl
  g3 := by kernel_rfl
  g4 := by kernel_rfl }
open Go.RowKit Go.Lib in
/-- strings.Split. (LAID: no walk: one application.) -/
theorem Tryz.strings_Split (s sep : ByteArray) (m : Int) (w : World) (hs : s.size < 4294967281) (hm : w.cell? ⟨0, 0, none⟩ = some (.int .i64 m)) (h1 : 1 ≤ sep.size) :
    Calls Tryz.prog 17 #[.string s, .string sep] w fun e w' =>
      e = .returned (.slice (some ⟨w.heap.size, 0, none⟩) (Lib.countB s sep + 1) (Lib.countB s sep + 1)) ∧ w' = w.alloc (.cells ((Lib.splitB sep 0 (Lib.countB s sep) s).map Value.string).toArray 9) := Any.strings_Split Tryz.lays146 (by kernel_rfl) s sep m w hs hm h1
end Go.Proofs

