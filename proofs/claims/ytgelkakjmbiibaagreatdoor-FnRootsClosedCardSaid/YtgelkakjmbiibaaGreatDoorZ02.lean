/-
  Drawn inputs: bytes that can be read, shifts and bits of numbers.
-/
import Derived.Test.YtgelkakjmbiibaaGreatDoorOps2
import Derived.Test.YtgelkakjmbiibaaGreatDoorLate
namespace Go.Proofs.YtgelkakjmbiibaaGreatDoor
set_option linter.unusedVariables false
set_option linter.unusedSimpArgs false
open Go.RowKit
abbrev Byts (w : World) (v : Value) (bs : List Int) : Prop := Sl w v bs.length 1 (bs.map (Value.int .u8))
def shrI (x y : Int) : Int := x.fdiv (2 ^ (min y.toNat 64))
def andI (x y : Int) : Int := IntKind.i64.wrap ((BitVec.ofInt 64 x &&& BitVec.ofInt 64 y).toNat : Int)
def xorI (x y : Int) : Int := IntKind.i64.wrap ((BitVec.ofInt 64 x ^^^ BitVec.ofInt 64 y).toNat : Int)
section
variable {P : Program} {o : Oper} {n : Nat} {env : List (Nat × Value)} {W : World} {own : List Asn} {t yt : TypeId} {x y : Operand} {k : IntKind} {i j : Int}
theorem OD.shr (hop : o.op = .binOp .shr t x y yt) (hx : ev env x = some (.int .i64 i)) (hy : ev env y = some (.int k j)) (h : 0 ≤ j) : OD P o n env W own (.int .i64 (shrI i j)) own :=
  .bin hop hx hy fun w => by
    have h2 : ¬ j < 0 := by omega
    simp [eqGuard, binOp, Op.shift, h2, shrI, IntKind.bits]
theorem OD.andB (hop : o.op = .binOp .and t x y yt) (hx : ev env x = some (.int .i64 i)) (hy : ev env y = some (.int .i64 j)) : OD P o n env W own (.int .i64 (andI i j)) own :=
  .bin hop hx hy fun w => by (first | rfl | (simp [eqGuard, binOp, Op.intBits]; rfl) | (simp only [eqGuard, binOp, Op.intBits]; rfl))
theorem OD.xorB (hop : o.op = .binOp .xor t x y yt) (hx : ev env x = some (.int .i64 i)) (hy : ev env y = some (.int .i64 j)) : OD P o n env W own (.int .i64 (xorI i j)) own :=
  .bin hop hx hy fun w => by (first | rfl | (simp [eqGuard, binOp, Op.intBits]; rfl) | (simp only [eqGuard, binOp, Op.intBits]; rfl))
theorem OD.nilCheck {a : Addr} (hop : o.op = .nilCheck x) (hx : ev env x = some (.pointer (some a))) : OD P o n env W own (.pointer (some a)) own :=
  .of fun a w hf _ => by simp [execOp, hop, hf.ev hx]
theorem OD.loadByte {pl : List (Nat × Nat)} {e : Nat} {v : Value} {bs : List Int} {zero : Value} {j : Nat} (hop : o.op = .load e x) (ti : TI P e false 1 zero pl) (hx : ev env x = some (elemPtr v 1 j)) (hv : Ent own fun w => Byts w v bs) (hj : j < bs.length) : OD P o n env W own (.int .u8 (bs.getD j 0)) own :=
  OD.loadElem hop ti hx hv hj (by simp [List.getD, hj])
end
theorem andI_255 (x : Int) : 0 ≤ andI x 255 ∧ andI x 255 ≤ 255 := by
  have h : (BitVec.ofInt 64 x &&& BitVec.ofInt 64 255).toNat ≤ 255 := by
    rw [BitVec.toNat_and]
    exact Nat.le_trans Nat.and_le_right (by decide)
  unfold andI
  rw [wrap_in (by omega) (by omega)]
  omega
theorem tmod_rng {x n : Int} (h : 0 ≤ x) (hn : 1 ≤ n) : 0 ≤ x.tmod n ∧ x.tmod n < n := ⟨Int.tmod_nonneg _ h, Int.tmod_lt_of_pos _ (by omega)⟩
end Go.Proofs.YtgelkakjmbiibaaGreatDoor

namespace Go.Proofs.YtgelkakjmbiibaaGreatDoor
set_option linter.unusedVariables false
set_option linter.unusedSimpArgs false
open Go.RowKit
def curA (g T : Nat) (vb : Value) : Asn where
  p F w := (∀ k, F k ↔ k = g) ∧ ∃ i h : Int, 0 ≤ i ∧ w.heap[g]? = some (.cells [vb, .int .i64 i, .int .i64 h].toArray T (0, 0))
  loc h hw := ⟨h.1, let ⟨i, hh, h1, h2⟩ := h.2; ⟨i, hh, h1, (hw _ ((h.1 _).2 rfl)).trans h2⟩⟩
section
variable {W w : World} {own : List Asn} {g T : Nat} {vb : Value} {i h : Int}
theorem St.curClose (hs : St W w (Proofs.YtgelkakjmbiibaaGreatDoor.box g T [vb, .int .i64 i, .int .i64 h] :: own)) (hi : 0 ≤ i) : St W w (Proofs.YtgelkakjmbiibaaGreatDoor.curA g T vb :: own) := by
  obtain ⟨h1, h2, h3, F, h4, F1, F2, a1, a2, a3, a4⟩ := hs
  exact ⟨h1, h2, h3, F, h4, F1, F2, a1, a2, ⟨a3.1, i, h, hi, a3.2⟩, a4⟩
theorem St.curOpen (hs : St W w (Proofs.YtgelkakjmbiibaaGreatDoor.curA g T vb :: own)) : ∃ i h : Int, 0 ≤ i ∧ St W w (Proofs.YtgelkakjmbiibaaGreatDoor.box g T [vb, .int .i64 i, .int .i64 h] :: own) := by
  obtain ⟨h1, h2, h3, F, h4, F1, F2, a1, a2, ⟨b1, i, h, hi, b2⟩, a4⟩ := hs
  exact ⟨i, h, hi, h1, h2, h3, F, h4, F1, F2, a1, a2, ⟨b1, b2⟩, a4⟩
theorem St.curAt {k : Nat} (hs : St W w own) (hk : own[k]? = some (Proofs.YtgelkakjmbiibaaGreatDoor.curA g T vb)) : ∃ i h : Int, 0 ≤ i ∧ St W w (Proofs.YtgelkakjmbiibaaGreatDoor.box g T [vb, .int .i64 i, .int .i64 h] :: own.eraseIdx k) := (hs.perm (perm_front hk)).curOpen
theorem St.curBack {k : Nat} (L : List Asn) (hk : own[k]? = some (Proofs.YtgelkakjmbiibaaGreatDoor.curA g T vb)) (hi : 0 ≤ i) (hs : St W w (L ++ Proofs.YtgelkakjmbiibaaGreatDoor.box g T [vb, .int .i64 i, .int .i64 h] :: own.eraseIdx k)) : St W w (L ++ own) := by
  have h1 : St W w (Proofs.YtgelkakjmbiibaaGreatDoor.box g T [vb, .int .i64 i, .int .i64 h] :: (L ++ own.eraseIdx k)) := hs.perm List.perm_middle
  exact (h1.curClose hi).perm (List.perm_middle.symm.trans ((perm_front hk).symm.append_left L))
theorem GC.curA {P : Program} {c : Code} {Q : Exit → Act → World → Prop} {n : Nat} {env : List (Nat × Value)} (hi : 0 ≤ i) (hc : GC P c Q n env W (Proofs.YtgelkakjmbiibaaGreatDoor.curA g T vb :: own)) : GC P c Q n env W (Proofs.YtgelkakjmbiibaaGreatDoor.box g T [vb, .int .i64 i, .int .i64 h] :: own) := fun a w hf hs => hc a w hf (hs.curClose hi)
end
def toI1 : Value → Int
  | .int _ i => i
  | _ => 0
def toIs : Value → List Int
  | .agg a => a.toList.map toI1
  | _ => []
theorem toIs_mk (xs : List Int) : toIs (.agg (xs.map (Value.int .i64)).toArray) = xs := by
  simp only [toIs, List.map_map]
  exact (List.map_congr_left fun _ _ => rfl).trans (List.map_id xs)
theorem toIs_ex (xs : List Int) : ∃ z, xs = toIs z := ⟨_, (toIs_mk xs).symm⟩
end Go.Proofs.YtgelkakjmbiibaaGreatDoor
