/-
  The descending order is a strict one, and the program's function tells it; what bad weights in an orbit mean.
-/
import Derived.Test.YtmckgdekblphoaaGreatDoorWCmD
import Derived.Test.YtmckgdekblphoaaGreatDoorOrbA
namespace Go.Proofs.YtmckgdekblphoaaGreatDoor
set_option linter.unusedVariables false
set_option linter.unusedSimpArgs false
open Go.RowKit
theorem tells_rcD : Tells rcD 58 := fun {_ _ _ _ _ _} sx ex sy ey h1 h2 => D.orbitLess_w sx ex sy ey h1 h2
theorem orB_any {n : Int} {d w : List Int} (h : ((oAll n d w).any fun y => !(wtOk n y)) = true) : orB n d w = false := by
  have h2 : (oAll n d w).all (wtOk n) = false := by
    rw [List.any_eq_true] at h
    obtain ⟨x, hx, hb⟩ := h
    rw [List.all_eq_false]
    exact ⟨x, hx, by simpa using hb⟩
  rw [orB, h2, Bool.and_false]
theorem orB_all {n : Int} {d w : List Int} (hl : (oAll n d w).length ≤ 1200) (h : ((oAll n d w).any fun y => !(wtOk n y)) = false) : orB n d w = true := by
  have h2 : (oAll n d w).all (wtOk n) = true := by
    rw [List.any_eq_false] at h
    rw [List.all_eq_true]
    intro x hx
    have := h x hx
    simpa using this
  rw [orB, h2, decide_eq_true hl]
  rfl
theorem getD_entO {L : List (List Int)} {b : Nat} (h : ∀ x ∈ L, x.length ≤ b) : ∀ k, k < L.length → (L.getD k []).length ≤ b := fun k hk => h _ (getD_mem hk)
end Go.Proofs.YtmckgdekblphoaaGreatDoor
