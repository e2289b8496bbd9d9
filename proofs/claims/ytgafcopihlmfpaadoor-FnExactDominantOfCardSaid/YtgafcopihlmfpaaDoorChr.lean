/-
  Characters: lists of weights with counts, in descending order; plain functions.
-/
import Derived.Test.YtgafcopihlmfpaaDoorCarW
import Derived.Test.YtgafcopihlmfpaaDoorRec
namespace Go.Proofs.YtgafcopihlmfpaaDoor
set_option linter.unusedVariables false
set_option linter.unusedSimpArgs false

def chrBad (n : Int) (p : List Rec) (i : Nat) : Bool := !(wtOk n (p.getD i ([], 0)).1) || (!(inB (p.getD i ([], 0)).2 1 1000000) || (decide (0 < (i : Int)) && !(abvL (p.getD ((i : Int) - 1).toNat ([], 0)).1 (p.getD i ([], 0)).1)))
def chrOk9 (n : Int) (p : List Rec) : Bool := decide ((p.length : Int) ≤ 400) && !((List.range p.length).any (chrBad n p))
def chrOk (n : Int) (d : List Int) (p : List Rec) : Bool := (tyS n d).isSome && (decide ((p.length : Int) ≤ 400) && !((List.range p.length).any (chrBad n p)))
theorem chrOk_9 (n : Int) (d : List Int) (p : List Rec) : chrOk n d p = ((tyS n d).isSome && chrOk9 n p) := rfl
def dimOf (n : Int) (d : List Int) (p : List Rec) : Int := if chrOk n d p then totF p p.length else 0

end Go.Proofs.YtgafcopihlmfpaaDoor
