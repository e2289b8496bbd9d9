/-
  Levels: what the walks ask.
-/
import Derived.Test.YtgelkakjmbiibaaGreatDoorZ34
import Derived.Test.YtgelkakjmbiibaaGreatDoorZ27
import Derived.Test.YtgelkakjmbiibaaGreatDoorZ33
namespace Go.Proofs.YtgelkakjmbiibaaGreatDoor
set_option linter.unusedVariables false
set_option linter.unusedSimpArgs false
open Go.RowKit
section
variable {P : Program} {n : Nat} {env : List (Nat × Value)} {W : World} {own : List Asn}
def slenV : Value → Nat
  | .slice _ n _ => n
  | _ => 0
theorem Sl.slen {w : World} {v : Value} {m sz : Nat} {cs : List Value} (h : Sl w v m sz cs) : slenV v = m := by
  obtain ⟨_, ao, cap, rfl, _⟩ := h
  rfl
end
section
variable {n : Int} {d : List Int} {R : List (List Int)}
end
theorem ones_64 {n : Int} : All64 (ones n 1) := fun y hy => by
  rw [(List.mem_replicate.1 hy).2]
  unfold I64
  omega
end Go.Proofs.YtgelkakjmbiibaaGreatDoor
