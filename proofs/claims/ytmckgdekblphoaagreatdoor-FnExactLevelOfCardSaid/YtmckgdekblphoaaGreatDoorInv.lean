/-
  Words at work on roots: roots they stay; those that fall below zero. A check by the kernel for all Cartan matrices. No program is spoken of.
-/
import Derived.Test.YtmckgdekblphoaaGreatDoorNewA
namespace Go.Proofs.YtmckgdekblphoaaGreatDoor
set_option linter.unusedVariables false
set_option linter.unusedSimpArgs false
open Go.RowKit
structure ClOk (n : Int) (d : List Int) : Prop where
  ht : ∀ x ∈ rSt n d, 1 ≤ sumW x
  cl : ∀ x ∈ rSt n d, ∀ i, i < n.toNat → (rSt n d).contains (rStep n d x i) = true ∨ (x = unitL n.toNat i ∧ rStep n d x i = mnF x)
theorem root_in {n : Int} {d : List Int} (h : (tyS n d).isSome = true) {k : Nat} (hk : k < (rSt n d).length) : wtOk n ((rSt n d).getD k []) = true ∧ rtB (rSt n d) ((rSt n d).getD k []) = true ∧ 2 ≤ inF n d ((rSt n d).getD k []) ((rSt n d).getD k []) ∧ inF n d ((rSt n d).getD k []) ((rSt n d).getD k []) ≤ 2000000000 := by
  have e : (rSt n d).getD k [] = (rSt n d)[k] := by simp [List.getD, hk]
  have hc : (rSt n d).contains ((rSt n d).getD k []) = true := by rw [List.contains_iff_mem, e]; exact List.getElem_mem hk
  have hb : rtB (rSt n d) ((rSt n d).getD k []) = true := by rw [rtB, hc]; rfl
  have hw := (rtOk h).in1 hc
  have h2 := inF_bd h hw hw
  exact ⟨hw, hb, rt_two h hw hb, by omega⟩
section
variable {P : Program} {n : Nat} {env : List (Nat × Value)} {W : World} {own : List Asn}
end
end Go.Proofs.YtmckgdekblphoaaGreatDoor
