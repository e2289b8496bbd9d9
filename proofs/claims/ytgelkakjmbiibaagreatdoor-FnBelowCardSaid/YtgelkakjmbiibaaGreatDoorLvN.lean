/-
  Levels: what the walks ask.
-/
import Derived.Test.YtgelkakjmbiibaaGreatDoorLvl
import Derived.Test.YtgelkakjmbiibaaGreatDoorZ23
import Derived.Test.YtgelkakjmbiibaaGreatDoorZ12
namespace Go.Proofs.YtgelkakjmbiibaaGreatDoor
set_option linter.unusedVariables false
set_option linter.unusedSimpArgs false
open Go.RowKit
section
variable {P : Program} {n : Nat} {env : List (Nat × Value)} {W : World} {own : List Asn}
end
section
variable {n : Int} {d : List Int} {R : List (List Int)}
end
theorem ones_64 {n : Int} : All64 (ones n 1) := fun y hy => by
  rw [(List.mem_replicate.1 hy).2]
  unfold I64
  omega
end Go.Proofs.YtgelkakjmbiibaaGreatDoor
