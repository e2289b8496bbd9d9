/-
  .. the check by the kernel, for all primes, part 3.
-/
import Derived.Test.YtiapoopcicjldaaExp2
namespace Go.Proofs.Ytiapoopcicjldaa
set_option linter.unusedVariables false
set_option linter.unusedSimpArgs false
set_option maxRecDepth 100000
theorem okC6600 : (List.range' 6600 1200).all okC = true := by decide +kernel
theorem okC7800 : (List.range' 7800 1200).all okC = true := by decide +kernel
theorem okC9000 : (List.range' 9000 1008).all okC = true := by decide +kernel
end Go.Proofs.Ytiapoopcicjldaa
