/-
  Contracts of functions of the library, laid by the kit's own tool for this translation.
-/
import Derived.Shelf.Strings.Builder1
import Derived.Shelf.Strings.Trim
import Derived.Shelf.Small.Utf8
import Derived.Shelf.Small.Strs
import Derived.Shelf.Small.Wraps
import Derived.Shelf.Strings.BuilderF
import Derived.Shelf.Strings.BuilderK
import Derived.Shelf.Strconv.Atoi
import Derived.Shelf.Strconv.Itoa0
import Derived.Shelf.Strconv.Itoa1
import Derived.Shelf.LaysM
import Derived.Shelf.Strconv.Itoa2
import Derived.Shelf.Strconv.Itoa3
import Derived.Shelf.Strconv.AtoiErrFast
import Derived.Shelf.Strconv.ParseIntEmpty
import Derived.Shelf.Strconv.AtoiFail
import Derived.Shelf.Strconv.Clone
import Derived.Shelf.Strconv.SyntaxError
import Derived.Shelf.LaysC
import Derived.Shelf.Strconv.ToError
import Derived.Shelf.Strconv.Lower
import Derived.Shelf.Strconv.ParseUint10
import Derived.Shelf.Strconv.ParseUint10Empty
import Derived.Shelf.Strconv.ParseUint10Any
import Derived.Shelf.Strconv.ParseInt10
import Derived.Shelf.Strconv.AtoiLong
import Derived.Shelf.Strconv.AtoiInnerAll
import Derived.Shelf.Strconv.RangeError
import Derived.Shelf.Strconv.ToErrorRange
import Derived.Shelf.Strconv.AtoiAll
import Derived.Shelf.Strconv.ErrVarAll
import Derived.Shelf.Strings.Search1
import Derived.Shelf.Strings.Prefix
import Derived.Shelf.Strings.Runes
import Derived.Shelf.Strings.AsciiSet
import Derived.Shelf.Bits.Mul64
import Derived.Shelf.Unicode.DecodeSlow
import Derived.Test.YtijjagofingpdaaDoorProg
namespace Go.Proofs
open Go.Shelf
def Tryd.lays160_ren : Go.Shelf.Ren := ⟨fun | 160 => 59 | 232 => 80 | 231 => 79 | 227 => 81 | 234 => 83 | 233 => 82 | 236 => 85 | 235 => 84 | 228 => 95 | 271 => 98 | 151 => 97 | 197 => 96 | 120 => 111 | 152 => 110 | 260 => 109 | 137 => 120 | 119 => 121 | 224 => 122 | 225 => 123 | 217 => 131 | 266 => 134 | n => n, fun | 9 => 9 | 4 => 4 | 3 => 3 | 5 => 5 | 117 => 89 | 116 => 88 | 0 => 0 | 124 => 92 | 21 => 21 | 105 => 102 | 46 => 94 | 119 => 131 | 139 => 134 | 138 => 133 | n => n, fun | 3 => 2 | 4 => 3 | n => n⟩
theorem Tryd.lays160 : Go.Proofs.Lays.n160 Tryd.prog Tryd.lays160_ren := {
  mixed := by kernel_rfl
  f119 := Tryd.func121.trans (congrArg some (by kernel_rfl))
  f120 := Tryd.func111.trans (congrArg some (by kernel_rfl))
  f137 := Tryd.func120.trans (congrArg some (by kernel_rfl))
  f151 := Tryd.func97.trans (congrArg some (by kernel_rfl))
  f152 := Tryd.func110.trans (congrArg some (by kernel_rfl))
  f160 := Tryd.func59.trans (congrArg some (by kernel_rfl))
  f197 := Tryd.func96.trans (congrArg some (by kernel_rfl))
  f217 := Tryd.func131.trans (congrArg some (by kernel_rfl))
  f224 := Tryd.func122.trans (congrArg some (by kernel_rfl))
  f225 := Tryd.func123.trans (congrArg some (by kernel_rfl))
  f227 := Tryd.func81.trans (congrArg some (by kernel_rfl))
  f228 := Tryd.func95.trans (congrArg some (by kernel_rfl))
  f231 := Tryd.func79.trans (congrArg some (by kernel_rfl))
  f232 := Tryd.func80.trans (congrArg some (by kernel_rfl))
  f233 := Tryd.func82.trans (congrArg some (by kernel_rfl))
  f234 := Tryd.func83.trans (congrArg some (by kernel_rfl))
  f235 := Tryd.func84.trans (congrArg some (by kernel_rfl))
  f236 := Tryd.func85.trans (congrArg some (by kernel_rfl))
  f260 := Tryd.func109.trans (congrArg some (by kernel_rfl))
  f266 := Tryd.func134.trans (congrArg some (by kernel_rfl))
  f271 := Tryd.func98.trans (congrArg some (by kernel_rfl))
  t0 := Tryd.underlying0
  a0 := Tryd.isAgg0
  z0 := Tryd.sizeOf0
  v0 := Tryd.zeroValue0
  t3 := Tryd.underlying3
  a3 := Tryd.isAgg3
  z3 := Tryd.sizeOf3
  v3 := Tryd.zeroValue3
  t4 := Tryd.underlying4
  a4 := Tryd.isAgg4
  z4 := Tryd.sizeOf4
  v4 := Tryd.zeroValue4
  t5 := Tryd.underlying5
  a5 := Tryd.isAgg5
  z5 := Tryd.sizeOf5
  v5 := Tryd.zeroValue5
  t9 := Tryd.underlying9
  a9 := Tryd.isAgg9
  z9 := Tryd.sizeOf9
  v9 := Tryd.zeroValue9
  t21 := Tryd.underlying21
  a21 := Tryd.isAgg21
  z21 := Tryd.sizeOf21
  v21 := Tryd.zeroValue21
  t46 := Tryd.underlying94
  a46 := Tryd.isAgg94
  z46 := Tryd.sizeOf94
  v46 := Tryd.zeroValue94
  t105 := Tryd.underlying102
  a105 := Tryd.isAgg102
  z105 := Tryd.sizeOf102
  v105 := Tryd.zeroValue102
  t116 := Tryd.underlying88
  a116 := Tryd.isAgg88
  z116 := Tryd.sizeOf88
  t117 := Tryd.underlying89
  a117 := Tryd.isAgg89
  z117 := Tryd.sizeOf89
  v117 := Tryd.zeroValue89
  t119 := Tryd.underlying131
  a119 := Tryd.isAgg131
  z119 := Tryd.sizeOf131
  t124 := Tryd.underlying92
  a124 := Tryd.isAgg92
  z124 := Tryd.sizeOf92
  v124 := Tryd.zeroValue92
  t138 := Tryd.underlying133
  a138 := Tryd.isAgg133
  z138 := Tryd.sizeOf133
  v138 := Tryd.zeroValue133
  t139 := Tryd.underlying134
  a139 := Tryd.isAgg134
  z139 := Tryd.sizeOf134
  v139 := Tryd.zeroValue134
  g3 := by kernel_rfl
  g4 := by kernel_rfl }
def Tryd.lays103_ren : Go.Shelf.Ren := ⟨fun | 103 => 58 | 210 => 78 | 206 => 94 | n => n, fun | 9 => 9 | 4 => 4 | 24 => 62 | 3 => 3 | n => n, fun | n => n⟩
theorem Tryd.lays103 : Go.Proofs.Lays.n103 Tryd.prog Tryd.lays103_ren := {
  mixed := by kernel_rfl
  f103 := Tryd.func58.trans (congrArg some (by kernel_rfl))
  f206 := Tryd.func94.trans (congrArg some (by kernel_rfl))
  f210 := Tryd.func78.trans (congrArg some (by kernel_rfl))
  t3 := Tryd.underlying3
  a3 := Tryd.isAgg3
  z3 := Tryd.sizeOf3
  v3 := Tryd.zeroValue3
  t4 := Tryd.underlying4
  a4 := Tryd.isAgg4
  z4 := Tryd.sizeOf4
  v4 := Tryd.zeroValue4
  t9 := Tryd.underlying9
  a9 := Tryd.isAgg9
  z9 := Tryd.sizeOf9
  v9 := Tryd.zeroValue9
  t24 := Tryd.underlying62
  a24 := Tryd.isAgg62
  z24 := Tryd.sizeOf62
  v24 := Tryd.zeroValue62 }
open Go.RowKit in
theorem Tryd.strings_CutPrefix (s p : ByteArray) (w : World) :
    Calls Tryd.prog 58 #[.string s, .string p] w fun e w' => e = .returned (.tuple #[.string ⟨(Lib.trimPrefix s.data.toList p.data.toList).toArray⟩, .bool (Lib.hasPrefix s.data.toList p.data.toList)]) ∧ w' = w := Any.strings_CutPrefix Tryd.lays103 s p w
def Tryd.lays172_ren : Go.Shelf.Ren := ⟨fun | 172 => 60 | 244 => 86 | 245 => 87 | 247 => 99 | 279 => 100 | 280 => 101 | 281 => 102 | 282 => 103 | 287 => 112 | 316 => 113 | 171 => 63 | 205 => 114 | 321 => 124 | 322 => 125 | 243 => 89 | 246 => 105 | 283 => 115 | 284 => 116 | 285 => 117 | 286 => 118 | 129 => 127 | 317 => 126 | 318 => 128 | 319 => 129 | 320 => 130 | 337 => 132 | 338 => 133 | n => n, fun | 9 => 9 | 3 => 3 | 75 => 66 | 76 => 67 | 4 => 4 | 5 => 5 | 167 => 105 | 37 => 71 | 0 => 0 | 85 => 106 | 2 => 2 | 168 => 108 | 53 => 61 | 175 => 119 | 46 => 94 | 210 => 123 | 127 => 100 | 145 => 142 | 143 => 140 | 21 => 21 | 171 => 125 | 173 => 128 | 212 => 144 | 51 => 50 | 20 => 20 | 213 => 145 | 232 => 149 | 233 => 150 | 80 => 77 | n => n, fun | 15 => 0 | 16 => 1 | 17 => 4 | 18 => 6 | 19 => 7 | n => n⟩
theorem Tryd.lays172 : Go.Proofs.Lays.n172 Tryd.prog Tryd.lays172_ren := {
  mixed := by kernel_rfl
  f129 := Tryd.func127.trans (congrArg some (by kernel_rfl))
  f171 := Tryd.func63.trans (congrArg some (by kernel_rfl))
  f172 := Tryd.func60.trans (congrArg some (by kernel_rfl))
  f205 := Tryd.func114.trans (congrArg some (by kernel_rfl))
  f243 := Tryd.func89.trans (congrArg some (by kernel_rfl))
  f244 := Tryd.func86.trans (congrArg some (by kernel_rfl))
  f245 := Tryd.func87.trans (congrArg some (by kernel_rfl))
  f246 := Tryd.func105.trans (congrArg some (by kernel_rfl))
  f247 := Tryd.func99.trans (congrArg some (by kernel_rfl))
  f279 := Tryd.func100.trans (congrArg some (by kernel_rfl))
  f280 := Tryd.func101.trans (congrArg some (by kernel_rfl))
  f281 := Tryd.func102.trans (congrArg some (by kernel_rfl))
  f282 := Tryd.func103.trans (congrArg some (by kernel_rfl))
  f283 := Tryd.func115.trans (congrArg some (by kernel_rfl))
  f284 := Tryd.func116.trans (congrArg some (by kernel_rfl))
  f285 := Tryd.func117.trans (congrArg some (by kernel_rfl))
  f286 := Tryd.func118.trans (congrArg some (by kernel_rfl))
  f287 := Tryd.func112.trans (congrArg some (by kernel_rfl))
  f316 := Tryd.func113.trans (congrArg some (by kernel_rfl))
  f317 := Tryd.func126.trans (congrArg some (by kernel_rfl))
  f318 := Tryd.func128.trans (congrArg some (by kernel_rfl))
  f319 := Tryd.func129.trans (congrArg some (by kernel_rfl))
  f320 := Tryd.func130.trans (congrArg some (by kernel_rfl))
  f321 := Tryd.func124.trans (congrArg some (by kernel_rfl))
  f322 := Tryd.func125.trans (congrArg some (by kernel_rfl))
  f337 := Tryd.func132.trans (congrArg some (by kernel_rfl))
  f338 := Tryd.func133.trans (congrArg some (by kernel_rfl))
  t0 := Tryd.underlying0
  a0 := Tryd.isAgg0
  z0 := Tryd.sizeOf0
  v0 := Tryd.zeroValue0
  t2 := Tryd.underlying2
  a2 := Tryd.isAgg2
  z2 := Tryd.sizeOf2
  v2 := Tryd.zeroValue2
  t3 := Tryd.underlying3
  a3 := Tryd.isAgg3
  z3 := Tryd.sizeOf3
  v3 := Tryd.zeroValue3
  t4 := Tryd.underlying4
  a4 := Tryd.isAgg4
  z4 := Tryd.sizeOf4
  v4 := Tryd.zeroValue4
  t5 := Tryd.underlying5
  a5 := Tryd.isAgg5
  z5 := Tryd.sizeOf5
  v5 := Tryd.zeroValue5
  t9 := Tryd.underlying9
  a9 := Tryd.isAgg9
  z9 := Tryd.sizeOf9
  v9 := Tryd.zeroValue9
  t20 := Tryd.underlying20
  a20 := Tryd.isAgg20
  z20 := Tryd.sizeOf20
  v20 := Tryd.zeroValue20
  t21 := Tryd.underlying21
  a21 := Tryd.isAgg21
  z21 := Tryd.sizeOf21
  v21 := Tryd.zeroValue21
  t37 := Tryd.underlying71
  a37 := Tryd.isAgg71
  z37 := Tryd.sizeOf71
  v37 := Tryd.zeroValue71
  t46 := Tryd.underlying94
  a46 := Tryd.isAgg94
  z46 := Tryd.sizeOf94
  v46 := Tryd.zeroValue94
  t51 := Tryd.underlying50
  a51 := Tryd.isAgg50
  z51 := Tryd.sizeOf50
  v51 := Tryd.zeroValue50
  t53 := Tryd.underlying61
  a53 := Tryd.isAgg61
  z53 := Tryd.sizeOf61
  v53 := Tryd.zeroValue61
  t75 := Tryd.underlying66
  a75 := Tryd.isAgg66
  z75 := Tryd.sizeOf66
  v75 := Tryd.zeroValue66
  t76 := Tryd.underlying67
  a76 := Tryd.isAgg67
  z76 := Tryd.sizeOf67
  v76 := Tryd.zeroValue67
  t85 := Tryd.underlying106
  a85 := Tryd.isAgg106
  z85 := Tryd.sizeOf106
  v85 := Tryd.zeroValue106
  t127 := Tryd.underlying100
  a127 := Tryd.isAgg100
  z127 := Tryd.sizeOf100
  v127 := Tryd.zeroValue100
  t143 := Tryd.underlying140
  a143 := Tryd.isAgg140
  z143 := Tryd.sizeOf140
  v143 := Tryd.zeroValue140
  t145 := Tryd.underlying142
  a145 := Tryd.isAgg142
  z145 := Tryd.sizeOf142
  v145 := Tryd.zeroValue142
  t167 := Tryd.underlying105
  a167 := Tryd.isAgg105
  z167 := Tryd.sizeOf105
  v167 := Tryd.zeroValue105
  t168 := Tryd.underlying108
  a168 := Tryd.isAgg108
  z168 := Tryd.sizeOf108
  v168 := Tryd.zeroValue108
  t171 := Tryd.underlying125
  a171 := Tryd.isAgg125
  z171 := Tryd.sizeOf125
  v171 := Tryd.zeroValue125
  t173 := Tryd.underlying128
  a173 := Tryd.isAgg128
  z173 := Tryd.sizeOf128
  v173 := Tryd.zeroValue128
  t175 := Tryd.underlying119
  a175 := Tryd.isAgg119
  z175 := Tryd.sizeOf119
  v175 := Tryd.zeroValue119
  t210 := Tryd.underlying123
  a210 := Tryd.isAgg123
  z210 := Tryd.sizeOf123
  v210 := Tryd.zeroValue123
  t212 := Tryd.underlying144
  a212 := Tryd.isAgg144
  z212 := Tryd.sizeOf144
  v212 := Tryd.zeroValue144
  t213 := Tryd.underlying145
  a213 := Tryd.isAgg145
  z213 := Tryd.sizeOf145
  t232 := Tryd.underlying149
  a232 := Tryd.isAgg149
  z232 := Tryd.sizeOf149
  v232 := Tryd.zeroValue149
  t233 := Tryd.underlying150
  a233 := Tryd.isAgg150
  z233 := Tryd.sizeOf150
  v233 := Tryd.zeroValue150
  g15 := by kernel_rfl
  g16 := by kernel_rfl
  g17 := by kernel_rfl
  g18 := by kernel_rfl
  g19 := by kernel_rfl }
open Go.RowKit in
theorem Tryd.strconv_Atoi (s : ByteArray) (n : Int) (hl : s.size ≤ 18) (h : Lib.atoi s.data.toList = some n) (w : World) :
    Calls Tryd.prog 60 #[.string s] w fun e w' => e = .returned (.tuple #[.int .i64 n, .nilIface]) ∧ ∃ t, w' = Lib.bytesWorld w 5 t := Any.strconv_Atoi Tryd.lays172 s n hl h w
def Tryd.laysM171_ren : Go.Shelf.Ren := ⟨fun | 171 => 63 | 243 => 89 | 246 => 105 | 283 => 115 | 284 => 116 | 285 => 117 | 286 => 118 | 129 => 127 | 317 => 126 | 318 => 128 | 319 => 129 | 320 => 130 | 337 => 132 | 338 => 133 | n => n, fun | 3 => 3 | 9 => 9 | 2 => 2 | 4 => 4 | 171 => 125 | 0 => 0 | 53 => 61 | 37 => 71 | 5 => 5 | 173 => 128 | 212 => 144 | 51 => 50 | 20 => 20 | 213 => 145 | 46 => 94 | 232 => 149 | 233 => 150 | n => n, fun | 17 => 4 | 18 => 6 | 19 => 7 | n => n⟩
theorem Tryd.laysM171 : Go.Proofs.LaysM.n171 Tryd.prog Tryd.laysM171_ren := {
  mixed := by kernel_rfl
  f129 := Tryd.func127.trans (congrArg some (by kernel_rfl))
  f171 := Tryd.func63.trans (congrArg some (by kernel_rfl))
  f243 := Tryd.func89.trans (congrArg some (by kernel_rfl))
  f246 := Tryd.func105.trans (congrArg some (by kernel_rfl))
  f283 := Tryd.func115.trans (congrArg some (by kernel_rfl))
  f284 := Tryd.func116.trans (congrArg some (by kernel_rfl))
  f285 := Tryd.func117.trans (congrArg some (by kernel_rfl))
  f286 := Tryd.func118.trans (congrArg some (by kernel_rfl))
  f317 := Tryd.func126.trans (congrArg some (by kernel_rfl))
  f318 := Tryd.func128.trans (congrArg some (by kernel_rfl))
  f319 := Tryd.func129.trans (congrArg some (by kernel_rfl))
  f320 := Tryd.func130.trans (congrArg some (by kernel_rfl))
  f337 := Tryd.func132.trans (congrArg some (by kernel_rfl))
  f338 := Tryd.func133.trans (congrArg some (by kernel_rfl))
  t0 := Tryd.underlying0
  a0 := Tryd.isAgg0
  z0 := Tryd.sizeOf0
  v0 := Tryd.zeroValue0
  t2 := Tryd.underlying2
  a2 := Tryd.isAgg2
  z2 := Tryd.sizeOf2
  v2 := Tryd.zeroValue2
  t3 := Tryd.underlying3
  a3 := Tryd.isAgg3
  z3 := Tryd.sizeOf3
  v3 := Tryd.zeroValue3
  t4 := Tryd.underlying4
  a4 := Tryd.isAgg4
  z4 := Tryd.sizeOf4
  v4 := Tryd.zeroValue4
  t5 := Tryd.underlying5
  a5 := Tryd.isAgg5
  z5 := Tryd.sizeOf5
  v5 := Tryd.zeroValue5
  t9 := Tryd.underlying9
  a9 := Tryd.isAgg9
  z9 := Tryd.sizeOf9
  v9 := Tryd.zeroValue9
  t20 := Tryd.underlying20
  a20 := Tryd.isAgg20
  z20 := Tryd.sizeOf20
  v20 := Tryd.zeroValue20
  t37 := Tryd.underlying71
  a37 := Tryd.isAgg71
  z37 := Tryd.sizeOf71
  v37 := Tryd.zeroValue71
  t46 := Tryd.underlying94
  a46 := Tryd.isAgg94
  z46 := Tryd.sizeOf94
  v46 := Tryd.zeroValue94
  t51 := Tryd.underlying50
  a51 := Tryd.isAgg50
  z51 := Tryd.sizeOf50
  v51 := Tryd.zeroValue50
  t53 := Tryd.underlying61
  a53 := Tryd.isAgg61
  z53 := Tryd.sizeOf61
  v53 := Tryd.zeroValue61
  t171 := Tryd.underlying125
  a171 := Tryd.isAgg125
  z171 := Tryd.sizeOf125
  v171 := Tryd.zeroValue125
  t173 := Tryd.underlying128
  a173 := Tryd.isAgg128
  z173 := Tryd.sizeOf128
  v173 := Tryd.zeroValue128
  t212 := Tryd.underlying144
  a212 := Tryd.isAgg144
  z212 := Tryd.sizeOf144
  v212 := Tryd.zeroValue144
  t213 := Tryd.underlying145
  a213 := Tryd.isAgg145
  z213 := Tryd.sizeOf145
  t232 := Tryd.underlying149
  a232 := Tryd.isAgg149
  z232 := Tryd.sizeOf149
  v232 := Tryd.zeroValue149
  t233 := Tryd.underlying150
  a233 := Tryd.isAgg150
  z233 := Tryd.sizeOf150
  v233 := Tryd.zeroValue150
  g17 := by kernel_rfl
  g18 := by kernel_rfl
  g19 := by kernel_rfl
  i0 := by kernel_rfl
  i2 := by kernel_rfl
  i3 := by kernel_rfl
  i4 := by kernel_rfl
  i5 := by kernel_rfl
  i9 := by kernel_rfl
  i20 := by kernel_rfl
  i37 := by kernel_rfl
  i46 := by kernel_rfl
  i51 := by kernel_rfl
  i53 := by kernel_rfl
  i171 := by kernel_rfl
  i173 := by kernel_rfl
  i212 := by kernel_rfl
  i232 := by kernel_rfl
  i233 := by kernel_rfl
  m17 := by kernel_rfl
  m18 := by kernel_rfl
  m19 := by kernel_rfl }
open Go.RowKit Go.Sort Go.Lib in
theorem Tryd.strconv_Itoa (n : Int) (h0 : -9223372036854775808 ≤ n) (h1 : n ≤ 9223372036854775807) (w : World) (htab : Lib.TabIs Tryd.prog w "internal/strconv.uint64pow10" .u64 Lib.pow10Tab) :
    Calls Tryd.prog 63 #[.int .i64 n] w fun e w' => e = .returned (.string ⟨(Lib.itoa n).toArray⟩) ∧ ∃ k os, w' = grow (w.drewN k) os := Any.strconv_Itoa Tryd.laysM171 n h0 h1 w htab
end Go.Proofs
