/-
  Drawn inputs: bytes that can be read, shifts and bits of numbers.
-/
import Derived.Test.YtbmnnbglipkidaaGreatDoorOps2
namespace Go.Proofs.YtbmnnbglipkidaaGreatDoor
set_option linter.unusedVariables false
set_option linter.unusedSimpArgs false
open Go.RowKit
section
variable {P : Program} {o : Oper} {n : Nat} {env : List (Nat × Value)} {W : World} {own : List Asn} {t yt : TypeId} {x y : Operand} {k : IntKind} {i j : Int}
theorem OD.nilCheck {a : Addr} (hop : o.op = .nilCheck x) (hx : ev env x = some (.pointer (some a))) : OD P o n env W own (.pointer (some a)) own :=
  .of fun a w hf _ => by simp [execOp, hop, hf.ev hx]
end
end Go.Proofs.YtbmnnbglipkidaaGreatDoor
