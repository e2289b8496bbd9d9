/-
  Further functions of the library at this seat's program: that it bears what their contracts ask (printed by a program out of the library's own command).
-/
import Derived.Test.YtgafcopihlmfpaaDoorLay
import Derived.Shelf.Slices.Reverse
import Derived.Shelf.Spec.SlicesInsertGrow
namespace Go.Proofs
set_option linter.unusedVariables false
set_option linter.unusedSimpArgs false
open Go.Shelf

def Tryd.l112_ren : Go.Shelf.Ren := ⟨fun | 112 => 71 | n => n, fun | 28 => 22 | 3 => 3 | 4 => 4 | 0 => 0 | n => n, fun | n => n⟩
theorem Tryd.l112 : Go.Proofs.Lays.n112 Tryd.prog Tryd.l112_ren := {
  mixed := by kernel_rfl,
  f112 := Tryd.func71.trans (congrArg some (by kernel_rfl)),
  t0 := Tryd.underlying0,
  a0 := Tryd.isAgg0,
  z0 := Tryd.sizeOf0,
  v0 := Tryd.zeroValue0,
  t3 := Tryd.underlying3,
  a3 := Tryd.isAgg3,
  z3 := Tryd.sizeOf3,
  v3 := Tryd.zeroValue3,
  t4 := Tryd.underlying4,
  a4 := Tryd.isAgg4,
  z4 := Tryd.sizeOf4,
  v4 := Tryd.zeroValue4,
  t28 := Tryd.underlying22,
  a28 := Tryd.isAgg22,
  z28 := Tryd.sizeOf22,
  v28 := Tryd.zeroValue22 }

def Tryd.l21_ren : Go.Shelf.Ren := ⟨fun | 21 => 78 | 27 => 97 | 28 => 98 | 35 => 113 | 39 => 71 | n => n, fun | 22 => 22 | 3 => 3 | 4 => 4 | 0 => 0 | n => n, fun | n => n⟩
theorem Tryd.l21 : Go.Proofs.Lays2.n21 Tryd.prog Tryd.l21_ren := {
  mixed := by kernel_rfl,
  f21 := Tryd.func78.trans (congrArg some (by kernel_rfl)),
  f27 := Tryd.func97.trans (congrArg some (by kernel_rfl)),
  f28 := Tryd.func98.trans (congrArg some (by kernel_rfl)),
  f35 := Tryd.func113.trans (congrArg some (by kernel_rfl)),
  f39 := Tryd.func71.trans (congrArg some (by kernel_rfl)),
  t0 := Tryd.underlying0,
  a0 := Tryd.isAgg0,
  z0 := Tryd.sizeOf0,
  v0 := Tryd.zeroValue0,
  t3 := Tryd.underlying3,
  a3 := Tryd.isAgg3,
  z3 := Tryd.sizeOf3,
  v3 := Tryd.zeroValue3,
  t4 := Tryd.underlying4,
  a4 := Tryd.isAgg4,
  z4 := Tryd.sizeOf4,
  v4 := Tryd.zeroValue4,
  t22 := Tryd.underlying22,
  a22 := Tryd.isAgg22,
  z22 := Tryd.sizeOf22,
  v22 := Tryd.zeroValue22,
  i3 := by kernel_rfl }

end Go.Proofs
