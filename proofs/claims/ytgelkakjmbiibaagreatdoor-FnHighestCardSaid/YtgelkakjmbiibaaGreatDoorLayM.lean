/-
  Further functions of the library at this seat's program: that it bears what their contracts ask (printed by a program out of the library's own command).
-/
import Derived.Test.YtgelkakjmbiibaaGreatDoorLay
import Derived.Shelf.Strings.Search3
import Derived.Shelf.Slices.Reverse
import Derived.Shelf.Spec.SlicesInsertGrow
namespace Go.Proofs
set_option linter.unusedVariables false
set_option linter.unusedSimpArgs false
open Go.Shelf
def Tryz.l144_ren : Go.Shelf.Ren := ⟨fun | 144 => 96 | 143 => 144 | 219 => 180 | 217 => 197 | 225 => 198 | 224 => 199 | 267 => 200 | 266 => 208 | 314 => 209 | n => n, fun | 9 => 9 | 4 => 4 | 3 => 3 | 5 => 5 | 46 => 128 | 146 => 166 | 51 => 160 | n => n, fun | 1 => 0 | n => n⟩
theorem Tryz.l144 : Go.Proofs.Lays.n144 Tryz.prog Tryz.l144_ren := {
  mixed := by kernel_rfl,
  f143 := Tryz.func144.trans (congrArg some (by kernel_rfl)),
  f144 := Tryz.func96.trans (congrArg some (by kernel_rfl)),
  f217 := Tryz.func197.trans (congrArg some (by kernel_rfl)),
  f219 := Tryz.func180.trans (congrArg some (by kernel_rfl)),
  f224 := Tryz.func199.trans (congrArg some (by kernel_rfl)),
  f225 := Tryz.func198.trans (congrArg some (by kernel_rfl)),
  f266 := Tryz.func208.trans (congrArg some (by kernel_rfl)),
  f267 := Tryz.func200.trans (congrArg some (by kernel_rfl)),
  f314 := Tryz.func209.trans (congrArg some (by kernel_rfl)),
  t3 := Tryz.underlying3,
  a3 := Tryz.isAgg3,
  z3 := Tryz.sizeOf3,
  v3 := Tryz.zeroValue3,
  t4 := Tryz.underlying4,
  a4 := Tryz.isAgg4,
  z4 := Tryz.sizeOf4,
  v4 := Tryz.zeroValue4,
  t5 := Tryz.underlying5,
  a5 := Tryz.isAgg5,
  z5 := Tryz.sizeOf5,
  v5 := Tryz.zeroValue5,
  t9 := Tryz.underlying9,
  a9 := Tryz.isAgg9,
  z9 := Tryz.sizeOf9,
  v9 := Tryz.zeroValue9,
  t46 := Tryz.underlying128,
  a46 := Tryz.isAgg128,
  z46 := Tryz.sizeOf128,
  v46 := Tryz.zeroValue128,
  t51 := Tryz.underlying160,
  a51 := Tryz.isAgg160,
  z51 := Tryz.sizeOf160,
  v51 := Tryz.zeroValue160,
  t146 := Tryz.underlying166,
  a146 := Tryz.isAgg166,
  z146 := Tryz.sizeOf166,
  v146 := Tryz.zeroValue166,
  g1 := by kernel_rfl }
end Go.Proofs
