/-
  Contracts of functions of the library, laid by the kit's own tool for this translation.
-/
import Derived.Shelf.Strings.Builder1
import Derived.Shelf.Small.Wraps
import Derived.Shelf.Strconv.Itoa0
import Derived.Shelf.Strconv.Itoa1
import Derived.Shelf.LaysM
import Derived.Shelf.Strconv.Itoa2
import Derived.Shelf.Strconv.Itoa3
import Derived.Shelf.Strings.Prefix
import Derived.Test.YtfgffkmddanjjaaGreatDoorProg
namespace Go.Proofs
open Go.Shelf
def Tryz.laysM171_ren : Go.Shelf.Ren := ⟨fun | 171 => 180 | 243 => 188 | 246 => 193 | 283 => 198 | 284 => 199 | 285 => 200 | 286 => 201 | 129 => 206 | 317 => 205 | 318 => 207 | 319 => 208 | 320 => 209 | 337 => 211 | 338 => 212 | n => n, fun | 3 => 3 | 9 => 9 | 2 => 2 | 4 => 4 | 171 => 217 | 0 => 0 | 53 => 153 | 37 => 23 | 5 => 5 | 173 => 220 | 212 => 225 | 51 => 128 | 20 => 20 | 213 => 226 | 46 => 100 | 232 => 230 | 233 => 231 | n => n, fun | 17 => 0 | 18 => 2 | 19 => 3 | n => n⟩
theorem Tryz.laysM171 : Go.Proofs.LaysM.n171 Tryz.prog Tryz.laysM171_ren := {
  mixed := by kernel_rfl
  f129 := Tryz.func206.trans (congrArg some (by kernel_rfl))
  f171 := Tryz.func180.trans (congrArg some (by kernel_rfl))
  f243 := Tryz.func188.trans (congrArg some (by kernel_rfl))
  f246 := Tryz.func193.trans (congrArg some (by kernel_rfl))
  f283 := Tryz.func198.trans (congrArg some (by kernel_rfl))
  f284 := Tryz.func199.trans (congrArg some (by kernel_rfl))
  f285 := Tryz.func200.trans (congrArg some (by kernel_rfl))
  f286 := Tryz.func201.trans (congrArg some (by kernel_rfl))
  f317 := Tryz.func205.trans (congrArg some (by kernel_rfl))
  f318 := Tryz.func207.trans (congrArg some (by kernel_rfl))
  f319 := Tryz.func208.trans (congrArg some (by kernel_rfl))
  f320 := Tryz.func209.trans (congrArg some (by kernel_rfl))
  f337 := Tryz.func211.trans (congrArg some (by kernel_rfl))
  f338 := Tryz.func212.trans (congrArg some (by kernel_rfl))
  t0 := Tryz.underlying0
  a0 := Tryz.isAgg0
  z0 := Tryz.sizeOf0
  v0 := Tryz.zeroValue0
  t2 := Tryz.underlying2
  a2 := Tryz.isAgg2
  z2 := Tryz.sizeOf2
  v2 := Tryz.zeroValue2
  t3 := Tryz.underlying3
  a3 := Tryz.isAgg3
  z3 := Tryz.sizeOf3
  v3 := Tryz.zeroValue3
  t4 := Tryz.underlying4
  a4 := Tryz.isAgg4
  z4 := Tryz.sizeOf4
  v4 := Tryz.zeroValue4
  t5 := Tryz.underlying5
  a5 := Tryz.isAgg5
  z5 := Tryz.sizeOf5
  v5 := Tryz.zeroValue5
  t9 := Tryz.underlying9
  a9 := Tryz.isAgg9
  z9 := Tryz.sizeOf9
  v9 := Tryz.zeroValue9
  t20 := Tryz.underlying20
  a20 := Tryz.isAgg20
  z20 := Tryz.sizeOf20
  v20 := Tryz.zeroValue20
  t37 := Tryz.underlying23
  a37 := Tryz.isAgg23
  z37 := Tryz.sizeOf23
  v37 := Tryz.zeroValue23
  t46 := Tryz.underlying100
  a46 := Tryz.isAgg100
  z46 := Tryz.sizeOf100
  v46 := Tryz.zeroValue100
  t51 := Tryz.underlying128
  a51 := Tryz.isAgg128
  z51 := Tryz.sizeOf128
  v51 := Tryz.zeroValue128
  t53 := Tryz.underlying153
  a53 := Tryz.isAgg153
  z53 := Tryz.sizeOf153
  v53 := Tryz.zeroValue153
  t171 := Tryz.underlying217
  a171 := Tryz.isAgg217
  z171 := Tryz.sizeOf217
  v171 := Tryz.zeroValue217
  t173 := Tryz.underlying220
  a173 := Tryz.isAgg220
  z173 := Tryz.sizeOf220
  v173 := Tryz.zeroValue220
  t212 := Tryz.underlying225
  a212 := Tryz.isAgg225
  z212 := Tryz.sizeOf225
  v212 := Tryz.zeroValue225
  t213 := Tryz.underlying226
  a213 := Tryz.isAgg226
  z213 := Tryz.sizeOf226
  t232 := Tryz.underlying230
  a232 := Tryz.isAgg230
  z232 := Tryz.sizeOf230
  v232 := Tryz.zeroValue230
  t233 := Tryz.underlying231
  a233 := Tryz.isAgg231
  z233 := Tryz.sizeOf231
  v233 := Tryz.zeroValue231
  g17 := by kernel_rfl
  g18 := by kernel_rfl
  g19 := by kernel_rfl
  i0 := by kernel_rfl
  i2 := by kernel_rfl
  i3 := by kernel_rfl
  i4 := by kernel_rfl
  i5 := by kernel_rfl
  i9 := by kernel_rfl
  i20 := by kernel_rfl
  i37 := by kernel_rfl
  i46 := by kernel_rfl
  i51 := by kernel_rfl
  i53 := by kernel_rfl
  i171 := by kernel_rfl
  i173 := by kernel_rfl
  i212 := by kernel_rfl
  i232 := by kernel_rfl
  i233 := by kernel_rfl
  m17 := by kernel_rfl
  m18 := by kernel_rfl
  m19 := by kernel_rfl }
open Go.RowKit Go.Sort Go.Lib in
theorem Tryz.strconv_Itoa (n : Int) (h0 : -9223372036854775808 ≤ n) (h1 : n ≤ 9223372036854775807) (w : World) (htab : Lib.TabIs Tryz.prog w "internal/strconv.uint64pow10" .u64 Lib.pow10Tab) :
    Calls Tryz.prog 180 #[.int .i64 n] w fun e w' => e = .returned (.string ⟨(Lib.itoa n).toArray⟩) ∧ ∃ k os, w' = grow (w.drewN k) os := Any.strconv_Itoa Tryz.laysM171 n h0 h1 w htab
end Go.Proofs
