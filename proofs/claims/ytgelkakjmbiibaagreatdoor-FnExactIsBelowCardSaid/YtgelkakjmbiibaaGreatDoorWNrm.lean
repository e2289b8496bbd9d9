/-
  Normal words: contracts by walks.
-/
import Derived.Test.YtgelkakjmbiibaaGreatDoorFct
import Derived.Test.YtgelkakjmbiibaaGreatDoorZ22
import Derived.Test.YtgelkakjmbiibaaGreatDoorWAct
namespace Go.Proofs.YtgelkakjmbiibaaGreatDoor
set_option linter.unusedVariables false
set_option linter.unusedSimpArgs false
open Go.RowKit
theorem ent60 : ∀ us w, (callFunc 60 us).run Tryz.prog w = .ok (.enter 60 us) w := fun us w => by kernel_rfl
theorem ent61 : ∀ us w, (callFunc 61 us).run Tryz.prog w = .ok (.enter 61 us) w := fun us w => by kernel_rfl
theorem ent62 : ∀ us w, (callFunc 62 us).run Tryz.prog w = .ok (.enter 62 us) w := fun us w => by kernel_rfl
theorem ent63 : ∀ us w, (callFunc 63 us).run Tryz.prog w = .ok (.enter 63 us) w := fun us w => by kernel_rfl
end Go.Proofs.YtgelkakjmbiibaaGreatDoor
