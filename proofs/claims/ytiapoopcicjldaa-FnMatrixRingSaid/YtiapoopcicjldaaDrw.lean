/-
  Drawn inputs: bytes that can be read, shifts and bits of numbers.
-/
import Derived.Test.YtiapoopcicjldaaOps2
namespace Go.Proofs.Ytiapoopcicjldaa
set_option linter.unusedVariables false
set_option linter.unusedSimpArgs false
open Go.RowKit

abbrev Byts (w : World) (v : Value) (bs : List Int) : Prop := Sl w v bs.length 1 (bs.map (Value.int .u8))
def shrI (x y : Int) : Int := x.fdiv (2 ^ (min y.toNat 64))
def andI (x y : Int) : Int := IntKind.i64.wrap ((BitVec.ofInt 64 x &&& BitVec.ofInt 64 y).toNat : Int)
def xorI (x y : Int) : Int := IntKind.i64.wrap ((BitVec.ofInt 64 x ^^^ BitVec.ofInt 64 y).toNat : Int)
section
variable {P : Program} {o : Oper} {n : Nat} {env : List (Nat × Value)} {W : World} {own : List Asn} {t yt : TypeId} {x y : Operand} {k : IntKind} {i j : Int}
theorem OD.shr (hop : o.op = .binOp .shr t x y yt) (hx : ev env x = some (.int .i64 i)) (hy : ev env y = some (.int k j)) (h : 0 ≤ j) : OD P o n env W own (.int .i64 (shrI i j)) own :=
  .bin hop hx hy fun w => by
    have h2 : ¬ j < 0 := by omega
    simp [eqGuard, binOp, Op.shift, h2, shrI, IntKind.bits]
theorem OD.andB (hop : o.op = .binOp .and t x y yt) (hx : ev env x = some (.int .i64 i)) (hy : ev env y = some (.int .i64 j)) : OD P o n env W own (.int .i64 (andI i j)) own :=
  .bin hop hx hy fun w => by (first | rfl | (simp [eqGuard, binOp, Op.intBits]; rfl) | (simp only [eqGuard, binOp, Op.intBits]; rfl))
theorem OD.xorB (hop : o.op = .binOp .xor t x y yt) (hx : ev env x = some (.int .i64 i)) (hy : ev env y = some (.int .i64 j)) : OD P o n env W own (.int .i64 (xorI i j)) own :=
  .bin hop hx hy fun w => by (first | rfl | (simp [eqGuard, binOp, Op.intBits]; rfl) | (simp only [eqGuard, binOp, Op.intBits]; rfl))
theorem OD.nilCheck {a : Addr} (hop : o.op = .nilCheck x) (hx : ev env x = some (.pointer (some a))) : OD P o n env W own (.pointer (some a)) own :=
  .of fun a w hf _ => by simp [execOp, hop, hf.ev hx]
theorem OD.loadByte {pl : List (Nat × Nat)} {e : Nat} {v : Value} {bs : List Int} {zero : Value} {j : Nat} (hop : o.op = .load e x) (ti : TI P e false 1 zero pl) (hx : ev env x = some (elemPtr v 1 j)) (hv : Ent own fun w => Byts w v bs) (hj : j < bs.length) : OD P o n env W own (.int .u8 (bs.getD j 0)) own :=
  OD.loadElem hop ti hx hv hj (by simp [List.getD, hj])
end
theorem andI_255 (x : Int) : 0 ≤ andI x 255 ∧ andI x 255 ≤ 255 := by
  have h : (BitVec.ofInt 64 x &&& BitVec.ofInt 64 255).toNat ≤ 255 := by
    rw [BitVec.toNat_and]
    exact Nat.le_trans Nat.and_le_right (by decide)
  unfold andI
  rw [wrap_in (by omega) (by omega)]
  omega
theorem tmod_rng {x n : Int} (h : 0 ≤ x) (hn : 1 ≤ n) : 0 ≤ x.tmod n ∧ x.tmod n < n := ⟨Int.tmod_nonneg _ h, Int.tmod_lt_of_pos _ (by omega)⟩
theorem toNat_lt {x : Int} {m : Nat} (h : 0 ≤ x ∧ x < (m : Nat)) : x.toNat < m := by omega
end Go.Proofs.Ytiapoopcicjldaa
