/-
  Contracts of functions of the library, laid by the kit's own tool for this translation.
-/
import Derived.Shelf.Strings.Search1
import Derived.Shelf.Strings.Search2
import Derived.Shelf.Strings.Cut
import Derived.Test.YtgfpbghgpdpepaaGreatDoorProg
namespace Go.Proofs
open Go.Shelf
def Tryz.lays145_ren : Go.Shelf.Ren := ⟨fun | 145 => 146 | 220 => 182 | 219 => 211 | 217 => 232 | 225 => 233 | 224 => 234 | 267 => 235 | 266 => 246 | 314 => 247 | n => n, fun | 9 => 9 | 4 => 4 | 59 => 156 | 3 => 3 | 5 => 5 | 46 => 130 | 146 => 171 | 51 => 133 | n => n, fun | 1 => 0 | n => n⟩
theorem Tryz.lays145 : Go.Proofs.Lays.n145 Tryz.prog Tryz.lays145_ren := {
  mixed := by kernel_rfl
  f145 := Tryz.func146.trans (congrArg some (by kernel_rfl))
  f217 := Tryz.func232.trans (congrArg some (by kernel_rfl))
  f219 := Tryz.func211.trans (congrArg some (by kernel_rfl))
  f220 := Tryz.func182.trans (congrArg some (by kernel_rfl))
  f224 := Tryz.func234.trans (congrArg some (by kernel_rfl))
  f225 := Tryz.func233.trans (congrArg some (by kernel_rfl))
  f266 := Tryz.func246.trans (congrArg some (by kernel_rfl))
  f267 := Tryz.func235.trans (congrArg some (by kernel_rfl))
  f314 := Tryz.func247.trans (congrArg some (by kernel_rfl))
  t3 := Tryz.underlying3
  a3 := Tryz.isAgg3
  z3 := Tryz.sizeOf3
  v3 := Tryz.zeroValue3
  t4 := Tryz.underlying4
  a4 := Tryz.isAgg4
  z4 := Tryz.sizeOf4
  v4 := Tryz.zeroValue4
  t5 := Tryz.underlying5
  a5 := Tryz.isAgg5
  z5 := Tryz.sizeOf5
  v5 := Tryz.zeroValue5
  t9 := Tryz.underlying9
  a9 := Tryz.isAgg9
  z9 := Tryz.sizeOf9
  v9 := Tryz.zeroValue9
  t46 := Tryz.underlying130
  a46 := Tryz.isAgg130
  z46 := Tryz.sizeOf130
  v46 := Tryz.zeroValue130
  t51 := Tryz.underlying133
  a51 := Tryz.isAgg133
  z51 := Tryz.sizeOf133
  v51 := Tryz.zeroValue133
  t59 := Tryz.underlying156
  a59 := Tryz.isAgg156
  z59 := Tryz.sizeOf156
  v59 := Tryz.zeroValue156
  t146 := Tryz.underlying171
  a146 := Tryz.isAgg171
  z146 := Tryz.sizeOf171
  v146 := Tryz.zeroValue171
  g1 := by kernel_rfl }
open Go.RowKit Go.Lib in
theorem Tryz.strings_Cut (s sep : ByteArray) (m : Int) (w : World) (hs : s.size < 4294967281) (hm : w.cell? ⟨0, 0, none⟩ = some (.int .i64 m)) :
    Calls Tryz.prog 146 #[.string s, .string sep] w fun e w' => e = .returned (.tuple #[.string ⟨(Lib.cut s.data.toList sep.data.toList).1.toArray⟩, .string ⟨(Lib.cut s.data.toList sep.data.toList).2.1.toArray⟩, .bool (Lib.cut s.data.toList sep.data.toList).2.2]) ∧ ∃ n, w' = w.drewN n := Any.strings_Cut Tryz.lays145 s sep m w hs hm
end Go.Proofs
