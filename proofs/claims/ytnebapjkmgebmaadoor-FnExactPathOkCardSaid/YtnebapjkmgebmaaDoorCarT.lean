/-
  Plain functions on weights, words and roots of a Cartan matrix, as both texts compute them (in the numbers of 64 bits, with their wrap); no program is spoken of.
-/
import Derived.Test.YtnebapjkmgebmaaDoorCarS
namespace Go.Proofs.YtnebapjkmgebmaaDoor
set_option linter.unusedVariables false
set_option linter.unusedSimpArgs false
def wtOk (n : Int) (x : List Int) : Bool := ((x.length : Int) == n) && !(x.any fun y => !(inB y (-1000) 1000))
end Go.Proofs.YtnebapjkmgebmaaDoor
