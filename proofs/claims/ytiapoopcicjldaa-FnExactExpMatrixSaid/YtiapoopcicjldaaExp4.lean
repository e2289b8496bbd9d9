/-
  .. the check by the kernel, for all primes, part 2.
-/
import Derived.Test.YtiapoopcicjldaaExp2
namespace Go.Proofs.Ytiapoopcicjldaa
set_option linter.unusedVariables false
set_option linter.unusedSimpArgs false
set_option maxRecDepth 100000
theorem okC3000 : (List.range' 3000 1200).all okC = true := by decide +kernel
theorem okC4200 : (List.range' 4200 1200).all okC = true := by decide +kernel
theorem okC5400 : (List.range' 5400 1200).all okC = true := by decide +kernel
end Go.Proofs.Ytiapoopcicjldaa
