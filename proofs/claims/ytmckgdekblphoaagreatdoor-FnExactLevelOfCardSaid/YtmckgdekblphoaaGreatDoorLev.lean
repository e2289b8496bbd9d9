/-
  Levels of weights: sums of coroots; both texts in plain words. No program is spoken of.
-/
import Derived.Test.YtmckgdekblphoaaGreatDoorInv
namespace Go.Proofs.YtmckgdekblphoaaGreatDoor
set_option linter.unusedVariables false
set_option linter.unusedSimpArgs false
def lvI (n : Int) (d : List Int) (o : List Int) (i : Nat) : List Int := lpF o 1 (crF n d ((rSt n d).getD i []))
def lvF (n : Int) (d : List Int) : List Int := (List.range (rSt n d).length).foldl (lvI n d) (List.replicate n.toNat 0)
theorem lvI_len (n : Int) (d o : List Int) (i : Nat) : (lvI n d o i).length = o.length := lpF_len _ _ _
theorem lvF_len (n : Int) (d : List Int) : (lvF n d).length = n.toNat := by rw [lvF, len_fold (fun o i => lvI_len n d o i), List.length_replicate]
def dtF (x y : List Int) : Int := (List.range x.length).foldl (fun (s : Int) (i : Nat) => IntKind.i64.wrap (s + IntKind.i64.wrap (x.getD i 0 * y.getD i 0))) 0
def lvOf (n : Int) (d w : List Int) : Int := if (tyS n d).isSome && wtOk n w then dtF (lvF n d) w else 0
theorem crF_len (n : Int) (d r : List Int) : (crF n d r).length = r.length := by simp [crF]
end Go.Proofs.YtmckgdekblphoaaGreatDoor
