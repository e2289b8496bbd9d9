/-
  Words at work on roots: roots they stay; those that fall below zero. A check by the kernel for all Cartan matrices. No program is spoken of.
-/
import Derived.Test.YtgelkakjmbiibaaGreatDoorNewA
namespace Go.Proofs.YtgelkakjmbiibaaGreatDoor
set_option linter.unusedVariables false
set_option linter.unusedSimpArgs false
open Go.RowKit
structure ClOk (n : Int) (d : List Int) : Prop where
  ht : ∀ x ∈ rSt n d, 1 ≤ sumW x
  cl : ∀ x ∈ rSt n d, ∀ i, i < n.toNat → (rSt n d).contains (rStep n d x i) = true ∨ (x = unitL n.toNat i ∧ rStep n d x i = mnF x)
def prOfL (n : Int) (d : List Int) : List (List Int) := if (tyS n d).isSome then rSt n d else []
section
variable {P : Program} {n : Nat} {env : List (Nat × Value)} {W : World} {own : List Asn}
end
end Go.Proofs.YtgelkakjmbiibaaGreatDoor
