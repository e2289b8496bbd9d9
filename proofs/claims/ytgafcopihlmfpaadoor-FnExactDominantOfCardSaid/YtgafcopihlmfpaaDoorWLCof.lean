/-
  The law on CartanOf.
-/
import Derived.Test.YtgafcopihlmfpaaDoorWHelp
namespace Go.Proofs.YtgafcopihlmfpaaDoor
set_option linter.unusedVariables false
set_option linter.unusedSimpArgs false
open Go.RowKit




end Go.Proofs.YtgafcopihlmfpaaDoor
