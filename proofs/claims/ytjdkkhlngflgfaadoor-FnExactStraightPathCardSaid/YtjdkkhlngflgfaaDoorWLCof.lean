/-
  The law on CartanOf.
-/
import Derived.Test.YtjdkkhlngflgfaaDoorFct
import Derived.Test.YtjdkkhlngflgfaaDoorWHelp
namespace Go.Proofs.YtjdkkhlngflgfaaDoor
set_option linter.unusedVariables false
set_option linter.unusedSimpArgs false
open Go.RowKit




end Go.Proofs.YtjdkkhlngflgfaaDoor
