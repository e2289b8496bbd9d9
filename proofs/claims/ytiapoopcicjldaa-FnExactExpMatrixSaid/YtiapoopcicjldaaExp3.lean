/-
  .. the check by the kernel, for all primes, part 1.
-/
import Derived.Test.YtiapoopcicjldaaExp2
namespace Go.Proofs.Ytiapoopcicjldaa
set_option linter.unusedVariables false
set_option linter.unusedSimpArgs false
set_option maxRecDepth 100000
theorem okC0 : (List.range' 0 1000).all okC = true := by decide +kernel
theorem okC1000 : (List.range' 1000 1000).all okC = true := by decide +kernel
theorem okC2000 : (List.range' 2000 1000).all okC = true := by decide +kernel
end Go.Proofs.Ytiapoopcicjldaa
