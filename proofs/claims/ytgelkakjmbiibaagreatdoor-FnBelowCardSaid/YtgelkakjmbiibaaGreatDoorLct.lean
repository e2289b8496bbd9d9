/-
  Lengths of elements and of normal words; how many elements have each length; elements in ascending order. No program is spoken of.
-/
import Derived.Test.YtgelkakjmbiibaaGreatDoorBlC
import Derived.Test.YtgelkakjmbiibaaGreatDoorZ19
import Derived.Test.YtgelkakjmbiibaaGreatDoorZ22
namespace Go.Proofs.YtgelkakjmbiibaaGreatDoor
set_option linter.unusedVariables false
set_option linter.unusedSimpArgs false
def lcF (n : Int) (d : List Int) : List Int := (List.range ((rSt n d).length + 1)).map fun k => ((lvAt n d k).length : Int)
def lcOf (n : Int) (d : List Int) : List Int := if (tyS n d).isSome then lcF n d else []
def elM (n : Int) (d : List Int) (L : Nat) : List (List Int) := ((oAll n d (ones n 1)).filter fun w => decide ((nwF n d w).length = L)).map (nwF n d)
def elF (n : Int) (d : List Int) (L : Nat) : List (List Int) := (srtD (elM n d L)).reverse
def elOf (n : Int) (d : List Int) (L : Int) : List (List Int) := if (tyS n d).isSome && decide (0 ≤ L) then elF n d L.toNat else []
end Go.Proofs.YtgelkakjmbiibaaGreatDoor
