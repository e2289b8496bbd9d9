/-
  The highest root: one part, or more; an element taken out of a list of lists; the library's Contains at one byte.
-/
import Derived.Test.YtgelkakjmbiibaaGreatDoorNewA
import Derived.Test.YtgelkakjmbiibaaGreatDoorZ09
import Derived.Shelf.Strings.Search3
import Derived.Shelf.Slices.Reverse
import Derived.Shelf.Spec.SlicesInsertGrow
import Derived.Test.YtgelkakjmbiibaaGreatDoorZ06
namespace Go.Proofs.YtgelkakjmbiibaaGreatDoor
set_option linter.unusedVariables false
set_option linter.unusedSimpArgs false
open Go.RowKit
section
variable {P : Program} {n : Nat} {env : List (Nat × Value)} {W : World} {own : List Asn}
theorem St.manyTake {w : World} {α : Type} {A : Value → α → Asn} {us : List Value} {xs : List α} {k : Nat} {d : α} (hk : k < us.length ∧ k < xs.length) (h : St W w (many A us xs :: own)) : St W w (A (us.getD k undef) (xs.getD k d) :: own) := by
  have h1 := St.unpack h
  refine h1.sub ?_
  have hm : A (us.getD k undef) (xs.getD k d) ∈ List.zipWith A us xs := List.mem_iff_getElem.2 ⟨k, by simp; omega, by simp [List.getD, hk.1, hk.2]⟩
  exact (List.singleton_sublist.2 hm).append (List.Sublist.refl _)
theorem GE.manyTake {α : Type} {A : Value → α → Asn} {us : List Value} {xs : List α} (k : Nat) (d : α) (hk : k < us.length ∧ k < xs.length) {e : Exit} {Q : Exit → Act → World → Prop} (h : GE e Q n env W (A (us.getD k undef) (xs.getD k d) :: own)) : GE e Q n env W (many A us xs :: own) := fun a w hf hs => h a w hf (hs.manyTake hk)
end
end Go.Proofs.YtgelkakjmbiibaaGreatDoor
