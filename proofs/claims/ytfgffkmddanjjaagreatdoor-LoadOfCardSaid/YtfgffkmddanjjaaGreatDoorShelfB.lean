/-
  Contracts of functions of the library, laid by the kit's own tool for this translation.
-/
import Derived.Shelf.Strings.BuilderF
import Derived.Shelf.Strings.BuilderK
import Derived.Shelf.Strings.Repeat
import Derived.Test.YtfgffkmddanjjaaGreatDoorProg
namespace Go.Proofs
open Go.Shelf
def Tryz.lays169_ren : Go.Shelf.Ren := ⟨fun | 169 => 192 | n => n, fun | 70 => 203 | 9 => 9 | 0 => 0 | 72 => 205 | 37 => 23 | 127 => 216 | 3 => 3 | 5 => 5 | n => n, fun | n => n⟩
theorem Tryz.lays169 : Go.Proofs.Lays.n169 Tryz.prog Tryz.lays169_ren := {
  mixed := by kernel_rfl
  f169 := Tryz.func192.trans (congrArg some (by kernel_rfl))
  t0 := Tryz.underlying0
  a0 := Tryz.isAgg0
  z0 := Tryz.sizeOf0
  v0 := Tryz.zeroValue0
  t3 := Tryz.underlying3
  a3 := Tryz.isAgg3
  z3 := Tryz.sizeOf3
  v3 := Tryz.zeroValue3
  t9 := Tryz.underlying9
  a9 := Tryz.isAgg9
  z9 := Tryz.sizeOf9
  v9 := Tryz.zeroValue9
  t37 := Tryz.underlying23
  a37 := Tryz.isAgg23
  z37 := Tryz.sizeOf23
  v37 := Tryz.zeroValue23
  t70 := Tryz.underlying203
  a70 := Tryz.isAgg203
  z70 := Tryz.sizeOf203
  v70 := Tryz.zeroValue203
  t72 := Tryz.underlying205
  a72 := Tryz.isAgg205
  z72 := Tryz.sizeOf205
  v72 := Tryz.zeroValue205
  t127 := Tryz.underlying216
  a127 := Tryz.isAgg216
  z127 := Tryz.sizeOf216
  v127 := Tryz.zeroValue216 }
theorem Tryz.Builder_Extra_169 : Builder.Extra Tryz.prog Tryz.lays169_ren := {
  sizeBuilder := by kernel_rfl
  liesBuilder := by kernel_rfl
  t5 := Tryz.underlying5
  a5 := Tryz.isAgg5
  z5 := Tryz.sizeOf5
  v5 := Tryz.zeroValue5
  infoByte := by kernel_rfl
  cellsByte := by kernel_rfl
  sizeByte := by kernel_rfl
  neB5 := by decide }
open Go.RowKit in
theorem Tryz.Builder_String_any_f (B b : Nat) (l : List UInt8) (w : World) (h : Lib.IsBuilderF 205 5 B b (Lib.byteCells l) w) (hBw : B ≤ w.heap.size) :
    Calls Tryz.prog 192 #[.pointer (some ⟨b, 0, none⟩)] w fun e w' => e = .returned (.string ⟨l.toArray⟩) ∧ (Lib.IsBuilderF 205 5 B b (Lib.byteCells l) w' ∧ Below B w w') := Any.Builder_String_any_f Tryz.lays169 Tryz.Builder_Extra_169 B b l w h hBw
def Tryz.lays105_ren : Go.Shelf.Ren := ⟨fun | 105 => 191 | 212 => 64 | 99 => 195 | 165 => 196 | 166 => 190 | 170 => 197 | 169 => 192 | 263 => 111 | 264 => 112 | 206 => 203 | 240 => 194 | 241 => 204 | 276 => 202 | 277 => 210 | n => n, fun | 9 => 9 | 3 => 3 | 4 => 4 | 20 => 20 | 0 => 0 | 46 => 100 | 109 => 101 | 5 => 5 | 72 => 205 | 76 => 209 | 51 => 128 | 146 => 151 | 53 => 153 | 148 => 154 | 70 => 203 | 37 => 23 | 75 => 207 | 127 => 216 | 164 => 222 | 80 => 212 | n => n, fun | n => n⟩
theorem Tryz.lays105 : Go.Proofs.Lays.n105 Tryz.prog Tryz.lays105_ren := {
  mixed := by kernel_rfl
  f99 := Tryz.func195.trans (congrArg some (by kernel_rfl))
  f105 := Tryz.func191.trans (congrArg some (by kernel_rfl))
  f165 := Tryz.func196.trans (congrArg some (by kernel_rfl))
  f166 := Tryz.func190.trans (congrArg some (by kernel_rfl))
  f169 := Tryz.func192.trans (congrArg some (by kernel_rfl))
  f170 := Tryz.func197.trans (congrArg some (by kernel_rfl))
  f206 := Tryz.func203.trans (congrArg some (by kernel_rfl))
  f212 := Tryz.func64.trans (congrArg some (by kernel_rfl))
  f240 := Tryz.func194.trans (congrArg some (by kernel_rfl))
  f241 := Tryz.func204.trans (congrArg some (by kernel_rfl))
  f263 := Tryz.func111.trans (congrArg some (by kernel_rfl))
  f264 := Tryz.func112.trans (congrArg some (by kernel_rfl))
  f276 := Tryz.func202.trans (congrArg some (by kernel_rfl))
  f277 := Tryz.func210.trans (congrArg some (by kernel_rfl))
  t0 := Tryz.underlying0
  a0 := Tryz.isAgg0
  z0 := Tryz.sizeOf0
  v0 := Tryz.zeroValue0
  t3 := Tryz.underlying3
  a3 := Tryz.isAgg3
  z3 := Tryz.sizeOf3
  v3 := Tryz.zeroValue3
  t4 := Tryz.underlying4
  a4 := Tryz.isAgg4
  z4 := Tryz.sizeOf4
  v4 := Tryz.zeroValue4
  t5 := Tryz.underlying5
  a5 := Tryz.isAgg5
  z5 := Tryz.sizeOf5
  v5 := Tryz.zeroValue5
  t9 := Tryz.underlying9
  a9 := Tryz.isAgg9
  z9 := Tryz.sizeOf9
  v9 := Tryz.zeroValue9
  t20 := Tryz.underlying20
  a20 := Tryz.isAgg20
  z20 := Tryz.sizeOf20
  v20 := Tryz.zeroValue20
  t37 := Tryz.underlying23
  a37 := Tryz.isAgg23
  z37 := Tryz.sizeOf23
  v37 := Tryz.zeroValue23
  t46 := Tryz.underlying100
  a46 := Tryz.isAgg100
  z46 := Tryz.sizeOf100
  v46 := Tryz.zeroValue100
  t51 := Tryz.underlying128
  a51 := Tryz.isAgg128
  z51 := Tryz.sizeOf128
  v51 := Tryz.zeroValue128
  t53 := Tryz.underlying153
  a53 := Tryz.isAgg153
  z53 := Tryz.sizeOf153
  v53 := Tryz.zeroValue153
  t70 := Tryz.underlying203
  a70 := Tryz.isAgg203
  z70 := Tryz.sizeOf203
  v70 := Tryz.zeroValue203
  t72 := Tryz.underlying205
  a72 := Tryz.isAgg205
  z72 := Tryz.sizeOf205
  v72 := Tryz.zeroValue205
  t75 := Tryz.underlying207
  a75 := Tryz.isAgg207
  z75 := Tryz.sizeOf207
  v75 := Tryz.zeroValue207
  t76 := Tryz.underlying209
  a76 := Tryz.isAgg209
  z76 := Tryz.sizeOf209
  v76 := Tryz.zeroValue209
  t109 := Tryz.underlying101
  a109 := Tryz.isAgg101
  z109 := Tryz.sizeOf101
  v109 := Tryz.zeroValue101
  t127 := Tryz.underlying216
  a127 := Tryz.isAgg216
  z127 := Tryz.sizeOf216
  v127 := Tryz.zeroValue216
  t146 := Tryz.underlying151
  a146 := Tryz.isAgg151
  z146 := Tryz.sizeOf151
  v146 := Tryz.zeroValue151
  t148 := Tryz.underlying154
  a148 := Tryz.isAgg154
  z148 := Tryz.sizeOf154
  v148 := Tryz.zeroValue154
  t164 := Tryz.underlying222
  a164 := Tryz.isAgg222
  z164 := Tryz.sizeOf222
  v164 := Tryz.zeroValue222 }
theorem Tryz.Builder_Extra_105 : Builder.Extra Tryz.prog Tryz.lays105_ren := {
  sizeBuilder := by kernel_rfl
  liesBuilder := by kernel_rfl
  t5 := Tryz.underlying5
  a5 := Tryz.isAgg5
  z5 := Tryz.sizeOf5
  v5 := Tryz.zeroValue5
  infoByte := by kernel_rfl
  cellsByte := by kernel_rfl
  sizeByte := by kernel_rfl
  neB5 := by decide }
open Go.RowKit Go.Lib in
theorem Tryz.strings_Repeat (s : ByteArray) (c : Nat) (w : World) (hc : c ≤ 9223372036854775807) (hlen : s.size * c ≤ 140737488355328) :
    Calls Tryz.prog 191 #[.string s, .int .i64 c] w fun e w' => e = .returned (.string ⟨(Lib.repeatL s.data.toList c).toArray⟩) ∧ Below w.heap.size w w' := Any.strings_Repeat Tryz.lays105 Tryz.Builder_Extra_105 s c w hc hlen
def Tryz.laysWB_ren : Go.Shelf.Ren := ⟨fun | 167 => 189 | 105 => 191 | 212 => 64 | 99 => 195 | 165 => 196 | 166 => 190 | 170 => 197 | 169 => 192 | 263 => 111 | 264 => 112 | 206 => 203 | 240 => 194 | 241 => 204 | 276 => 202 | 277 => 210 | n => n, fun | 9 => 9 | 3 => 3 | 4 => 4 | 20 => 20 | 0 => 0 | 46 => 100 | 109 => 101 | 5 => 5 | 72 => 205 | 76 => 209 | 51 => 128 | 146 => 151 | 53 => 153 | 148 => 154 | 70 => 203 | 37 => 23 | 75 => 207 | 127 => 216 | 164 => 222 | 80 => 212 | n => n, fun | n => n⟩
theorem Tryz.laysWB : Go.Proofs.Lays.n167 Tryz.prog Tryz.laysWB_ren := {
  mixed := by kernel_rfl
  f167 := Tryz.func189.trans (congrArg some (by kernel_rfl))
  f240 := Tryz.func194.trans (congrArg some (by kernel_rfl))
  f276 := Tryz.func202.trans (congrArg some (by kernel_rfl))
  t0 := Tryz.underlying0
  a0 := Tryz.isAgg0
  z0 := Tryz.sizeOf0
  v0 := Tryz.zeroValue0
  t4 := Tryz.underlying4
  a4 := Tryz.isAgg4
  z4 := Tryz.sizeOf4
  v4 := Tryz.zeroValue4
  t5 := Tryz.underlying5
  a5 := Tryz.isAgg5
  z5 := Tryz.sizeOf5
  v5 := Tryz.zeroValue5
  t9 := Tryz.underlying9
  a9 := Tryz.isAgg9
  z9 := Tryz.sizeOf9
  v9 := Tryz.zeroValue9
  t20 := Tryz.underlying20
  a20 := Tryz.isAgg20
  z20 := Tryz.sizeOf20
  v20 := Tryz.zeroValue20
  t37 := Tryz.underlying23
  a37 := Tryz.isAgg23
  z37 := Tryz.sizeOf23
  v37 := Tryz.zeroValue23
  t70 := Tryz.underlying203
  a70 := Tryz.isAgg203
  z70 := Tryz.sizeOf203
  v70 := Tryz.zeroValue203
  t72 := Tryz.underlying205
  a72 := Tryz.isAgg205
  z72 := Tryz.sizeOf205
  v72 := Tryz.zeroValue205
  t75 := Tryz.underlying207
  a75 := Tryz.isAgg207
  z75 := Tryz.sizeOf207
  v75 := Tryz.zeroValue207
  t164 := Tryz.underlying222
  a164 := Tryz.isAgg222
  z164 := Tryz.sizeOf222
  v164 := Tryz.zeroValue222
}
theorem Tryz.Builder_Extra_WB : Builder.Extra Tryz.prog Tryz.laysWB_ren := {
  sizeBuilder := by kernel_rfl
  liesBuilder := by kernel_rfl
  t5 := Tryz.underlying5
  a5 := Tryz.isAgg5
  z5 := Tryz.sizeOf5
  v5 := Tryz.zeroValue5
  infoByte := by kernel_rfl
  cellsByte := by kernel_rfl
  sizeByte := by kernel_rfl
  neB5 := by decide }
open Go.RowKit in
theorem Tryz.Builder_WriteByte_k (B b : Nat) (bs : List Value) (c : Int) (w : World) (h : Lib.IsBuilderF 205 5 B b bs w) (hlen : bs.length + 1 ≤ 140737488355328) (hBw : B ≤ w.heap.size) :
    Calls Tryz.prog 189 #[.pointer (some ⟨b, 0, none⟩), .int .u8 c] w fun e w' => e = .returned .nilIface ∧ (Lib.BuilderAtF 205 5 B b (.pointer (some ⟨b, 0, none⟩)) (bs ++ [.int .u8 c]) w' ∧ Below B w w' ∧ Lib.OthersKept 5 (some b) w w') :=
  Any.Builder_WriteByte_k Tryz.laysWB Tryz.Builder_Extra_WB B b bs c w h hlen hBw
open Go.RowKit in
theorem Tryz.Builder_WriteString_k (B b : Nat) (bs : List Value) (s : ByteArray) (w : World) (h : Lib.IsBuilderF 205 5 B b bs w) (hlen : bs.length + s.size ≤ 140737488355328) (hBw : B ≤ w.heap.size) :
    Calls Tryz.prog 190 #[.pointer (some ⟨b, 0, none⟩), .string s] w fun e w' => e = .returned (.tuple #[.int .i64 s.size, .nilIface]) ∧ (Lib.BuilderAtF 205 5 B b (.pointer (some ⟨b, 0, none⟩)) (bs ++ Lib.strCells s) w' ∧ Below B w w' ∧ Lib.OthersKept 5 (some b) w w') :=
  Any.Builder_WriteString_k { Tryz.lays105 with } Tryz.Builder_Extra_105 B b bs s w h hlen hBw

end Go.Proofs
