/-
  Plain facts on lists and numbers, without a program.
-/
import Derived.Test.YtbmnnbglipkidaaPar
namespace Go.Proofs.Ytbmnnbglipkidaa
set_option linter.unusedVariables false
set_option linter.unusedSimpArgs false
theorem take_succD (xs : List Int) (k : Nat) (h : k < xs.length) : xs.take (k + 1) = xs.take k ++ [xs.getD k 0] := by
  rw [List.take_add_one, List.getElem?_eq_getElem h]
  simp [List.getD, h]
theorem set_step_zero {xs : List Int} {k : Nat} (hk : k < xs.length) : (xs.take k ++ List.replicate (xs.length - k) 0).set k (xs.getD k 0) = xs.take (k + 1) ++ List.replicate (xs.length - (k + 1)) 0 := by
  have hr : xs.length - k = (xs.length - (k + 1)) + 1 := by omega
  have h0 : k - min k xs.length = 0 := by omega
  rw [take_succD xs k hk, hr, List.replicate_succ, List.set_append_right _ _ (by simp; omega)]
  simp [h0]
def samB (xs ys : List Int) : Bool := decide (xs = ys)
def szG (n : Nat) (left : Int) : Int := if left < n then -1 else left - n
def mkd (k : Int) (n : Nat) : List Int := (List.range n).map fun (i : Nat) => k + (i : Int)
theorem mkd_len (k : Int) (n : Nat) : (mkd k n).length = n := by simp [mkd]
theorem set_mkd {xs : List Int} {q : Int} {k : Nat} (hk : k < xs.length) :
    (mkd q k ++ xs.drop k).set k (q + k) = mkd q (k + 1) ++ xs.drop (k + 1) := by
  have hd : xs.drop k = xs[k]'(by omega) :: xs.drop (k + 1) := List.drop_eq_getElem_cons (by omega)
  rw [hd, List.set_append_right _ _ (by simp [mkd_len])]
  have h0 : k - (mkd q k).length = 0 := by simp [mkd_len]
  rw [h0, List.set_cons_zero]
  simp [mkd, List.range_succ]
theorem mkd_get (q : Int) (k n : Nat) (h : k < n) : (mkd q n).getD k 0 = q + k := by
  simp [mkd, List.getD, h]
theorem int_eq {a b : Int} (h : a = b) : some (Value.int .i64 a) = some (Value.int .i64 b) := by rw [h]
theorem eq_false_of_not {b : Bool} (h : (!b) = true) : b = false := by simpa using h
theorem eq_true_of_not {b : Bool} (h : (!b) = false) : b = true := by simpa using h
theorem bneF {a b : Int} (h : a = b) : (a != b) = false := by simp [h]
theorem bneB_same (a : Bool) : (a != a) = false := by simp
theorem bne_same (a : Int) : (a != a) = false := by simp
theorem szG_ok {n : Nat} {q : Int} (h : ¬ szG n q < 0) : (n : Int) ≤ q ∧ szG n q = q - n := by
  unfold szG at h ⊢
  split at h
  · omega
  · rename_i h1
    rw [if_neg h1]
    omega
theorem szG_no {n : Nat} {q : Int} (h : szG n q < 0) : szG n q = -1 := by
  unfold szG at h ⊢
  split at h
  · rename_i h1
    rw [if_pos h1]
  · omega
theorem szG_le {n : Nat} {q : Int} (h0 : 0 ≤ q) : szG n q ≤ q ∧ -1 ≤ szG n q := by
  unfold szG
  split <;> omega
end Go.Proofs.Ytbmnnbglipkidaa
