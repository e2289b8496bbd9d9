/-
  Plain facts on lists and numbers, without a program.
-/
import Derived.Test.YtbmnnbglipkidaaGreatDoorPar
namespace Go.Proofs.YtbmnnbglipkidaaGreatDoor
set_option linter.unusedVariables false
set_option linter.unusedSimpArgs false
theorem take_succD (xs : List Int) (k : Nat) (h : k < xs.length) : xs.take (k + 1) = xs.take k ++ [xs.getD k 0] := by
  rw [List.take_add_one, List.getElem?_eq_getElem h]
  simp [List.getD, h]
theorem take_eqD {xs ys : List Int} {k : Nat} (hE : xs.take k = ys.take k) (h1 : k < xs.length) (h2 : k < ys.length) (he : xs.getD k 0 = ys.getD k 0) : xs.take (k + 1) = ys.take (k + 1) := by
  rw [take_succD xs k h1, take_succD ys k h2, hE, he]
theorem eq_takeD {α : Type} {xs ys : List α} {n : Nat} (hE : xs.take n = ys.take n) (h1 : xs.length ≤ n) (h2 : ys.length ≤ n) : xs = ys := by
  rwa [List.take_of_length_le h1, List.take_of_length_le h2] at hE
theorem ne_getD {xs ys : List Int} {k : Nat} (he : xs.getD k 0 ≠ ys.getD k 0) : xs ≠ ys := fun h => he (by rw [h])
def samB (xs ys : List Int) : Bool := decide (xs = ys)
theorem samB_of {xs ys : List Int} (h : xs = ys) : samB xs ys = true := by simpa [samB] using h
theorem samB_not {xs ys : List Int} (h : xs ≠ ys) : samB xs ys = false := by simpa [samB] using h
theorem int_eq {a b : Int} (h : a = b) : some (Value.int .i64 a) = some (Value.int .i64 b) := by rw [h]
theorem eq_false_of_not {b : Bool} (h : (!b) = true) : b = false := by simpa using h
theorem eq_true_of_not {b : Bool} (h : (!b) = false) : b = true := by simpa using h
theorem bne_same (a : Int) : (a != a) = false := by simp
end Go.Proofs.YtbmnnbglipkidaaGreatDoor
