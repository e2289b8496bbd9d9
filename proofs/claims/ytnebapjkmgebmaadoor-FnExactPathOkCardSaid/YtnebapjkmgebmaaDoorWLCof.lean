/-
  The law on CartanOf.
-/
import Derived.Test.YtnebapjkmgebmaaDoorWHelp
namespace Go.Proofs.YtnebapjkmgebmaaDoor
set_option linter.unusedVariables false
set_option linter.unusedSimpArgs false
open Go.RowKit
theorem ent16 : ∀ us w, (callFunc 16 us).run Tryd.prog w = .ok (.enter 16 us) w := fun us w => by kernel_rfl
theorem ent17 : ∀ us w, (callFunc 17 us).run Tryd.prog w = .ok (.enter 17 us) w := fun us w => by kernel_rfl
theorem bt4 : BT Tryd.prog 4 := ⟨fun a b w => by cases a <;> cases b <;> kernel_rfl, fun a b w => by cases a <;> cases b <;> kernel_rfl⟩
end Go.Proofs.YtnebapjkmgebmaaDoor
