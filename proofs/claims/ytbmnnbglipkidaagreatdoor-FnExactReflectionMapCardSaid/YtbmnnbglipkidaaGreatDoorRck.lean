/-
  Roots and reflections: the check by the kernel. No program is spoken of.
-/
import Derived.Test.YtbmnnbglipkidaaGreatDoorZ35
namespace Go.Proofs.YtbmnnbglipkidaaGreatDoor
set_option linter.unusedVariables false
set_option linter.unusedSimpArgs false
end Go.Proofs.YtbmnnbglipkidaaGreatDoor
