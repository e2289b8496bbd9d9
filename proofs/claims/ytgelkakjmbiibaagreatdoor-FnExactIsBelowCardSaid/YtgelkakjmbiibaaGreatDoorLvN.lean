/-
  Levels: what the walks ask.
-/
import Derived.Test.YtgelkakjmbiibaaGreatDoorLvl
import Derived.Test.YtgelkakjmbiibaaGreatDoorZ17
import Derived.Test.YtgelkakjmbiibaaGreatDoorZ11
namespace Go.Proofs.YtgelkakjmbiibaaGreatDoor
set_option linter.unusedVariables false
set_option linter.unusedSimpArgs false
open Go.RowKit
section
variable {P : Program} {n : Nat} {env : List (Nat × Value)} {W : World} {own : List Asn}
def slenV : Value → Nat
  | .slice _ n _ => n
  | _ => 0
theorem Sl.slen {w : World} {v : Value} {m sz : Nat} {cs : List Value} (h : Sl w v m sz cs) : slenV v = m := by
  obtain ⟨_, ao, cap, rfl, _⟩ := h
  rfl
end
section
variable {n : Int} {d : List Int} {R : List (List Int)}
theorem WlOk.levLen (h : WlOk n d R) (j : Nat) : (lvAt n d j).length ≤ 1200 := h.few (h.lev j).1.nod fun v hv => (((h.lev j).2 v).1 hv).1
end
theorem ones_64 {n : Int} : All64 (ones n 1) := fun y hy => by
  rw [(List.mem_replicate.1 hy).2]
  unfold I64
  omega
def woF (n : Int) (d : List Int) : Int := if (tyS n d).isSome then ((oAll n d (ones n 1)).length : Int) else 0
end Go.Proofs.YtgelkakjmbiibaaGreatDoor
