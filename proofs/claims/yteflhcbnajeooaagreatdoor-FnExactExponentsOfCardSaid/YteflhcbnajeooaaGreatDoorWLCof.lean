/-
  The law on CartanOf.
-/
import Derived.Test.YteflhcbnajeooaaGreatDoorWHelp
namespace Go.Proofs.YteflhcbnajeooaaGreatDoor
set_option linter.unusedVariables false
set_option linter.unusedSimpArgs false
open Go.RowKit




end Go.Proofs.YteflhcbnajeooaaGreatDoor
