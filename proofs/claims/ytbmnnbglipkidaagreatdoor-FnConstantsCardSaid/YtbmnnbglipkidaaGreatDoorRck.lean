/-
  Roots and reflections: the check by the kernel. No program is spoken of.
-/
import Derived.Test.YtbmnnbglipkidaaGreatDoorZ19
namespace Go.Proofs.YtbmnnbglipkidaaGreatDoor
set_option linter.unusedVariables false
set_option linter.unusedSimpArgs false
set_option maxRecDepth 100000 in
theorem chkRc_1 : cndP chkRc 1 0 256 = true := by decide +kernel
set_option maxRecDepth 100000 in
theorem chkRc_2 : cndP chkRc 2 0 256 = true := by decide +kernel
set_option maxRecDepth 100000 in
theorem chkRc_3 : cndP chkRc 3 0 256 = true := by decide +kernel
set_option maxRecDepth 100000 in
theorem chkRc_4 : cndP chkRc 4 0 64 = true := by decide +kernel
set_option maxRecDepth 100000 in
theorem chkRc_5 : cndP chkRc 4 64 64 = true := by decide +kernel
set_option maxRecDepth 100000 in
theorem chkRc_6 : cndP chkRc 4 128 64 = true := by decide +kernel
set_option maxRecDepth 100000 in
theorem chkRc_7 : cndP chkRc 4 192 64 = true := by decide +kernel
end Go.Proofs.YtbmnnbglipkidaaGreatDoor
