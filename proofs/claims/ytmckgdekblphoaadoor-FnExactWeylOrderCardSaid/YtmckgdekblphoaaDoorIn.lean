/-
  A number between two others: a plain fact, without a program.
-/
import Derived.Test.YtmckgdekblphoaaDoorBr
namespace Go.Proofs.YtmckgdekblphoaaDoor
set_option linter.unusedVariables false
set_option linter.unusedSimpArgs false

def inB (n lo hi : Int) : Bool := decide (lo ≤ n) && decide (n ≤ hi)
theorem inB_true {n lo hi : Int} (h : inB n lo hi = true) : lo ≤ n ∧ n ≤ hi := by simpa [inB] using h
theorem inB_false {n lo hi : Int} (h : inB n lo hi = false) : n < lo ∨ hi < n := by simp [inB] at h; omega
theorem inB_of {n lo hi : Int} (h : lo ≤ n) (h' : n ≤ hi) : inB n lo hi = true := by simp [inB, h, h']
theorem inB_not {n lo hi : Int} (h : ¬ (lo ≤ n ∧ n ≤ hi)) : inB n lo hi = false := by simp [inB]; omega

end Go.Proofs.YtmckgdekblphoaaDoor
