/-
  WordOk, WeightOf, ActWeight, ActRoot: contracts and the laws on them.
-/
import Derived.Test.YtnebapjkmgebmaaDoorWWrd
namespace Go.Proofs.YtnebapjkmgebmaaDoor
set_option linter.unusedVariables false
set_option linter.unusedSimpArgs false
open Go.RowKit
theorem ent71 : ∀ us w, (callFunc 71 us).run Tryd.prog w = .ok (.enter 71 us) w := fun us w => by kernel_rfl
theorem ent73 : ∀ us w, (callFunc 73 us).run Tryd.prog w = .ok (.enter 73 us) w := fun us w => by kernel_rfl
end Go.Proofs.YtnebapjkmgebmaaDoor
