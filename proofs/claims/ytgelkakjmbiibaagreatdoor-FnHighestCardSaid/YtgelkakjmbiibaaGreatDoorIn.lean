/-
  A number between two others: a plain fact, without a program.
-/
import Derived.Test.YtgelkakjmbiibaaGreatDoorBr
namespace Go.Proofs.YtgelkakjmbiibaaGreatDoor
set_option linter.unusedVariables false
set_option linter.unusedSimpArgs false
def inB (n lo hi : Int) : Bool := decide (lo ≤ n) && decide (n ≤ hi)
theorem inB_true {n lo hi : Int} (h : inB n lo hi = true) : lo ≤ n ∧ n ≤ hi := by simpa [inB] using h
end Go.Proofs.YtgelkakjmbiibaaGreatDoor
