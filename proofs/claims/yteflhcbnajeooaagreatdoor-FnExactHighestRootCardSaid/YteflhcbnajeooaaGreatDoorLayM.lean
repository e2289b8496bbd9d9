/-
  Further functions of the library at this seat's program: that it bears what their contracts ask (printed by a program out of the library's own command).
-/
import Derived.Test.YteflhcbnajeooaaGreatDoorLay
import Derived.Shelf.Strings.Search3
namespace Go.Proofs
set_option linter.unusedVariables false
set_option linter.unusedSimpArgs false
open Go.Shelf

def Tryz.l144_ren : Go.Shelf.Ren := ⟨fun | 144 => 39 | 143 => 74 | 219 => 98 | 217 => 113 | 225 => 114 | 224 => 115 | 267 => 116 | 266 => 135 | 314 => 136 | n => n, fun | 9 => 9 | 4 => 4 | 3 => 3 | 5 => 5 | 46 => 110 | 146 => 130 | 51 => 127 | n => n, fun | 1 => 0 | n => n⟩
theorem Tryz.l144 : Go.Proofs.Lays.n144 Tryz.prog Tryz.l144_ren := {
  mixed := by kernel_rfl,
  f143 := Tryz.func74.trans (congrArg some (by kernel_rfl)),
  f144 := Tryz.func39.trans (congrArg some (by kernel_rfl)),
  f217 := Tryz.func113.trans (congrArg some (by kernel_rfl)),
  f219 := Tryz.func98.trans (congrArg some (by kernel_rfl)),
  f224 := Tryz.func115.trans (congrArg some (by kernel_rfl)),
  f225 := Tryz.func114.trans (congrArg some (by kernel_rfl)),
  f266 := Tryz.func135.trans (congrArg some (by kernel_rfl)),
  f267 := Tryz.func116.trans (congrArg some (by kernel_rfl)),
  f314 := Tryz.func136.trans (congrArg some (by kernel_rfl)),
  t3 := Tryz.underlying3,
  a3 := Tryz.isAgg3,
  z3 := Tryz.sizeOf3,
  v3 := Tryz.zeroValue3,
  t4 := Tryz.underlying4,
  a4 := Tryz.isAgg4,
  z4 := Tryz.sizeOf4,
  v4 := Tryz.zeroValue4,
  t5 := Tryz.underlying5,
  a5 := Tryz.isAgg5,
  z5 := Tryz.sizeOf5,
  v5 := Tryz.zeroValue5,
  t9 := Tryz.underlying9,
  a9 := Tryz.isAgg9,
  z9 := Tryz.sizeOf9,
  v9 := Tryz.zeroValue9,
  t46 := Tryz.underlying110,
  a46 := Tryz.isAgg110,
  z46 := Tryz.sizeOf110,
  v46 := Tryz.zeroValue110,
  t51 := Tryz.underlying127,
  a51 := Tryz.isAgg127,
  z51 := Tryz.sizeOf127,
  v51 := Tryz.zeroValue127,
  t146 := Tryz.underlying130,
  a146 := Tryz.isAgg130,
  z146 := Tryz.sizeOf130,
  v146 := Tryz.zeroValue130,
  g1 := by kernel_rfl }

end Go.Proofs
