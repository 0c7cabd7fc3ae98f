/-
  Contracts of functions of the library, laid by the kit's own tool for this translation.
-/
import Derived.Shelf.Small.Wraps
import Derived.Shelf.Bits.Mul64
import Derived.Test.YtgfpbghgpdpepaaGreatDoorProg
namespace Go.Proofs
open Go.Shelf
def Tryz.lays212_ren : Go.Shelf.Ren := ⟨fun | 212 => 123 | 263 => 168 | 264 => 169 | n => n, fun | 46 => 130 | 51 => 133 | 146 => 171 | 53 => 134 | 148 => 173 | n => n, fun | n => n⟩
theorem Tryz.lays212 : Go.Proofs.Lays.n212 Tryz.prog Tryz.lays212_ren := {
  mixed := by kernel_rfl
  f212 := Tryz.func123.trans (congrArg some (by kernel_rfl))
  f263 := Tryz.func168.trans (congrArg some (by kernel_rfl))
  f264 := Tryz.func169.trans (congrArg some (by kernel_rfl))
  t46 := Tryz.underlying130
  a46 := Tryz.isAgg130
  z46 := Tryz.sizeOf130
  v46 := Tryz.zeroValue130
  t51 := Tryz.underlying133
  a51 := Tryz.isAgg133
  z51 := Tryz.sizeOf133
  v51 := Tryz.zeroValue133
  t53 := Tryz.underlying134
  a53 := Tryz.isAgg134
  z53 := Tryz.sizeOf134
  v53 := Tryz.zeroValue134
  t146 := Tryz.underlying171
  a146 := Tryz.isAgg171
  z146 := Tryz.sizeOf171
  v146 := Tryz.zeroValue171
  t148 := Tryz.underlying173
  a148 := Tryz.isAgg173
  z148 := Tryz.sizeOf173
  v148 := Tryz.zeroValue173 }
open Go.RowKit Go.Lib in
theorem Tryz.bits_Mul (x y : Nat) (hx : x < 18446744073709551616) (hy : y < 18446744073709551616) (w : World) :
    Calls Tryz.prog 123 #[.int .u64 x, .int .u64 y] w fun e w' => e = .returned (.tuple #[.int .u64 ((x * y / 18446744073709551616 : Nat) : Int), .int .u64 ((x * y % 18446744073709551616 : Nat) : Int)]) ∧ w' = w := Any.bits_Mul Tryz.lays212 x y hx hy w
end Go.Proofs
