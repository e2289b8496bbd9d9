/-
  Further functions of the library at this seat's program: that it bears what their contracts ask (printed by a program out of the library's own command).
-/
import Derived.Test.YtmckgdekblphoaaDoorLay
namespace Go.Proofs
set_option linter.unusedVariables false
set_option linter.unusedSimpArgs false
open Go.Shelf


end Go.Proofs
