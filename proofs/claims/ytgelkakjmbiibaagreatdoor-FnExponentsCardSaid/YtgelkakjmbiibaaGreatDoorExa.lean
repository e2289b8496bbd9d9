/-
  Exponents: the check by the kernel, the first part. No program is spoken of.
-/
import Derived.Test.YtgelkakjmbiibaaGreatDoorZ19
namespace Go.Proofs.YtgelkakjmbiibaaGreatDoor
set_option linter.unusedVariables false
set_option linter.unusedSimpArgs false
set_option maxRecDepth 100000 in
theorem chkXq_1 : cndP chkXq 1 0 256 = true := by decide +kernel
set_option maxRecDepth 100000 in
theorem chkXq_2 : cndP chkXq 2 0 256 = true := by decide +kernel
set_option maxRecDepth 100000 in
theorem chkXq_3 : cndP chkXq 3 0 256 = true := by decide +kernel
set_option maxRecDepth 100000 in
theorem chkXq_4_0 : cndP chkXq 4 0 16 = true := by decide +kernel
set_option maxRecDepth 100000 in
theorem chkXq_4_1 : cndP chkXq 4 16 16 = true := by decide +kernel
set_option maxRecDepth 100000 in
theorem chkXq_4_2 : cndP chkXq 4 32 16 = true := by decide +kernel
set_option maxRecDepth 100000 in
theorem chkXq_4_3 : cndP chkXq 4 48 16 = true := by decide +kernel
set_option maxRecDepth 100000 in
theorem chkXq_4_4 : cndP chkXq 4 64 16 = true := by decide +kernel
set_option maxRecDepth 100000 in
theorem chkXq_4_5 : cndP chkXq 4 80 16 = true := by decide +kernel
set_option maxRecDepth 100000 in
theorem chkXq_4_6 : cndP chkXq 4 96 16 = true := by decide +kernel
set_option maxRecDepth 100000 in
theorem chkXq_4_7 : cndP chkXq 4 112 16 = true := by decide +kernel
end Go.Proofs.YtgelkakjmbiibaaGreatDoor
