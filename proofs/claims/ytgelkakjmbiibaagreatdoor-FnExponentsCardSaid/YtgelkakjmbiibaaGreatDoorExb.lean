/-
  Exponents: the check by the kernel, the second part. No program is spoken of.
-/
import Derived.Test.YtgelkakjmbiibaaGreatDoorZ19
namespace Go.Proofs.YtgelkakjmbiibaaGreatDoor
set_option linter.unusedVariables false
set_option linter.unusedSimpArgs false
set_option maxRecDepth 100000 in
theorem chkXq_4_8 : cndP chkXq 4 128 16 = true := by decide +kernel
set_option maxRecDepth 100000 in
theorem chkXq_4_9 : cndP chkXq 4 144 16 = true := by decide +kernel
set_option maxRecDepth 100000 in
theorem chkXq_4_10 : cndP chkXq 4 160 16 = true := by decide +kernel
set_option maxRecDepth 100000 in
theorem chkXq_4_11 : cndP chkXq 4 176 16 = true := by decide +kernel
set_option maxRecDepth 100000 in
theorem chkXq_4_12 : cndP chkXq 4 192 16 = true := by decide +kernel
set_option maxRecDepth 100000 in
theorem chkXq_4_13 : cndP chkXq 4 208 16 = true := by decide +kernel
set_option maxRecDepth 100000 in
theorem chkXq_4_14 : cndP chkXq 4 224 16 = true := by decide +kernel
set_option maxRecDepth 100000 in
theorem chkXq_4_15 : cndP chkXq 4 240 16 = true := by decide +kernel
end Go.Proofs.YtgelkakjmbiibaaGreatDoor
