/-
  The ascending order is a strict one, and the library's function tells it; a list that may be empty is put in order.
-/
import Derived.Test.YtmckgdekblphoaaGreatDoorWCmp
import Derived.Test.YtmckgdekblphoaaGreatDoorSrtA
import Derived.Test.YtmckgdekblphoaaGreatDoorOrbA
import Derived.Shelf.SlSortCmp.NoneTotal
namespace Go.Proofs.YtmckgdekblphoaaGreatDoor
set_option linter.unusedVariables false
set_option linter.unusedSimpArgs false
open Go.RowKit
theorem strict_cmpL : StrictL cmpL := ⟨fun x h => by have := cmpL_self x; omega, fun {x y z} h k => cmpL_trans h k, fun {x y z} h k h2 => by
  have n1 := cmpL_neg x y
  have n2 := cmpL_neg y z
  have n3 := cmpL_neg x z
  by_cases e1 : cmpL x y = 0
  · rw [cmpL_zero e1] at h2
    exact k h2
  · by_cases e2 : cmpL y z = 0
    · rw [← cmpL_zero e2] at h2
      exact h h2
    · have := cmpL_trans (x := z) (y := y) (z := x) (by omega) (by omega)
      omega⟩
theorem tells_cmpL : Tells cmpL 59 := fun {_ _ _ _ _ _} sx ex sy ey h1 h2 => D.compare_w sx ex sy ey h1 h2
theorem sort_any {rc : List Int → List Int → Int} (hr : StrictL rc) {F : Nat} (hF : Tells rc F) (hE : ∀ args w, (callFunc F args).run Tryz.prog w = .ok (.enter F args) w) {W : World} {own : List Asn} {v : Value} {us : List Value} {xs : List (List Int)} (sv : IsS v) (hus : AllS us) (hl : us.length = xs.length) (hn : xs.length ≤ 1073741824) (hx : ∀ x ∈ xs, x.length ≤ 1073741824) :
    Spec Tryz.prog 57 [v, .func (.func F) #[] #[]] W (lst 22 v us :: many (ints 3) us xs :: own) fun r ow =>
      ∃ (us' : List Value) (xs' : List (List Int)), r = .tuple #[] ∧ AllS us' ∧ us'.length = xs'.length ∧ xs'.Perm xs ∧ (xs'.Pairwise fun a b => ¬ rc b a < 0) ∧ ow = lst 22 v us' :: many (ints 3) us' xs' :: own := by
  by_cases hpos : 0 < xs.length
  · exact sort_w hr hF hE sv hus hl hpos hn hx
  · have e1 : xs = [] := List.eq_nil_of_length_eq_zero (by omega)
    have e2 : us = [] := List.eq_nil_of_length_eq_zero (by omega)
    subst e1 e2
    intro w hs
    have hv : ∃ p cap, v = .slice p 0 cap := by
      obtain ⟨F1, ⟨k3, k4⟩, f2, f3⟩ := hs.upd (i := 0) rfl
      rcases k3 with ⟨_, _, h⟩ | ⟨_, g, cap, cur, h, _⟩
      · exact ⟨_, _, h⟩
      · exact ⟨_, _, h⟩
    obtain ⟨p, cap, rfl⟩ := hv
    have hcall := AnyF.slices_SortFunc_none (P := Tryz.prog) (ρ := Tryz.l6_ren) { Tryz.l6 with } p cap (.func (.func F) #[] #[]) w
    exact hcall.mono fun e w' ⟨he, hw⟩ => ⟨_, _, he, ⟨[], [], rfl, AllS.nil, rfl, List.Perm.refl _, List.Pairwise.nil, rfl⟩, by rw [hw]; exact hs⟩
end Go.Proofs.YtmckgdekblphoaaGreatDoor
