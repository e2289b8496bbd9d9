/-
  Drawn inputs: bytes that can be read, shifts and bits of numbers.
-/
import Derived.Test.YtgelkakjmbiibaaGreatDoorOps2
import Derived.Test.YtgelkakjmbiibaaGreatDoorCarU
import Derived.Test.YtgelkakjmbiibaaGreatDoorCarQ
namespace Go.Proofs.YtgelkakjmbiibaaGreatDoor
set_option linter.unusedVariables false
set_option linter.unusedSimpArgs false
open Go.RowKit
abbrev Byts (w : World) (v : Value) (bs : List Int) : Prop := Sl w v bs.length 1 (bs.map (Value.int .u8))
def shrI (x y : Int) : Int := x.fdiv (2 ^ (min y.toNat 64))
def andI (x y : Int) : Int := IntKind.i64.wrap ((BitVec.ofInt 64 x &&& BitVec.ofInt 64 y).toNat : Int)
def xorI (x y : Int) : Int := IntKind.i64.wrap ((BitVec.ofInt 64 x ^^^ BitVec.ofInt 64 y).toNat : Int)
section
variable {P : Program} {o : Oper} {n : Nat} {env : List (Nat × Value)} {W : World} {own : List Asn} {t yt : TypeId} {x y : Operand} {k : IntKind} {i j : Int}
theorem OD.shr (hop : o.op = .binOp .shr t x y yt) (hx : ev env x = some (.int .i64 i)) (hy : ev env y = some (.int k j)) (h : 0 ≤ j) : OD P o n env W own (.int .i64 (shrI i j)) own :=
  .bin hop hx hy fun w => by
    have h2 : ¬ j < 0 := by omega
    simp [eqGuard, binOp, Op.shift, h2, shrI, IntKind.bits]
theorem OD.andB (hop : o.op = .binOp .and t x y yt) (hx : ev env x = some (.int .i64 i)) (hy : ev env y = some (.int .i64 j)) : OD P o n env W own (.int .i64 (andI i j)) own :=
  .bin hop hx hy fun w => by (first | rfl | (simp [eqGuard, binOp, Op.intBits]; rfl) | (simp only [eqGuard, binOp, Op.intBits]; rfl))
theorem OD.xorB (hop : o.op = .binOp .xor t x y yt) (hx : ev env x = some (.int .i64 i)) (hy : ev env y = some (.int .i64 j)) : OD P o n env W own (.int .i64 (xorI i j)) own :=
  .bin hop hx hy fun w => by (first | rfl | (simp [eqGuard, binOp, Op.intBits]; rfl) | (simp only [eqGuard, binOp, Op.intBits]; rfl))
theorem OD.nilCheck {a : Addr} (hop : o.op = .nilCheck x) (hx : ev env x = some (.pointer (some a))) : OD P o n env W own (.pointer (some a)) own :=
  .of fun a w hf _ => by simp [execOp, hop, hf.ev hx]
theorem OD.loadByte {pl : List (Nat × Nat)} {e : Nat} {v : Value} {bs : List Int} {zero : Value} {j : Nat} (hop : o.op = .load e x) (ti : TI P e false 1 zero pl) (hx : ev env x = some (elemPtr v 1 j)) (hv : Ent own fun w => Byts w v bs) (hj : j < bs.length) : OD P o n env W own (.int .u8 (bs.getD j 0)) own :=
  OD.loadElem hop ti hx hv hj (by simp [List.getD, hj])
end
theorem andI_255 (x : Int) : 0 ≤ andI x 255 ∧ andI x 255 ≤ 255 := by
  have h : (BitVec.ofInt 64 x &&& BitVec.ofInt 64 255).toNat ≤ 255 := by
    rw [BitVec.toNat_and]
    exact Nat.le_trans Nat.and_le_right (by decide)
  unfold andI
  rw [wrap_in (by omega) (by omega)]
  omega
theorem tmod_rng {x n : Int} (h : 0 ≤ x) (hn : 1 ≤ n) : 0 ≤ x.tmod n ∧ x.tmod n < n := ⟨Int.tmod_nonneg _ h, Int.tmod_lt_of_pos _ (by omega)⟩
end Go.Proofs.YtgelkakjmbiibaaGreatDoor

namespace Go.Proofs.YtgelkakjmbiibaaGreatDoor
set_option linter.unusedVariables false
set_option linter.unusedSimpArgs false
def ordP : Nat → List (List Int)
  | 0 => [[]]
  | i + 1 => (ordP i).flatMap fun o => (List.range (i + 1)).map fun k => o.take k ++ [(i : Int)] ++ o.drop k
theorem ordP_step {i k : Nat} {o : List Int} (ho : o ∈ ordP i) (hk : k ≤ i) : o.take k ++ [(i : Int)] ++ o.drop k ∈ ordP (i + 1) := by
  rw [ordP, List.mem_flatMap]
  exact ⟨o, ho, List.mem_map.2 ⟨k, List.mem_range.2 (by omega), rfl⟩⟩
theorem ordP_len : ∀ {i : Nat} {o : List Int}, o ∈ ordP i → o.length = i ∧ ∀ y ∈ o, 0 ≤ y ∧ y < i
  | 0, o, h => by
    rw [ordP, List.mem_singleton] at h
    subst h
    simp
  | i + 1, o, h => by
    rw [ordP, List.mem_flatMap] at h
    obtain ⟨p, hp, h2⟩ := h
    obtain ⟨k, hk, rfl⟩ := List.mem_map.1 h2
    obtain ⟨h3, h4⟩ := ordP_len hp
    have hk2 := List.mem_range.1 hk
    refine ⟨by simp; omega, fun y hy => ?_⟩
    rcases List.mem_append.1 hy with hy | hy
    · rcases List.mem_append.1 hy with hy | hy
      · have := h4 y (List.mem_of_mem_take hy); omega
      · rw [List.mem_singleton.1 hy]; omega
    · have := h4 y (List.mem_of_mem_drop hy); omega
def tpL : List ByteArray := [⟨#[65, 49]⟩, ⟨#[65, 50]⟩, ⟨#[65, 51]⟩, ⟨#[66, 50]⟩, ⟨#[66, 51]⟩, ⟨#[67, 51]⟩, ⟨#[71, 50]⟩, ⟨#[65, 49, 43, 65, 49]⟩, ⟨#[65, 49, 43, 65, 50]⟩, ⟨#[65, 49, 43, 66, 50]⟩, ⟨#[68, 52]⟩, ⟨#[65, 52]⟩, ⟨#[65, 49, 43, 71, 50]⟩, ⟨#[66, 50, 43, 66, 50]⟩, ⟨#[65, 49, 43, 65, 49, 43, 65, 49]⟩, ⟨#[65, 50, 43, 65, 50]⟩, ⟨#[67, 52]⟩, ⟨#[66, 52]⟩, ⟨#[70, 52]⟩]
def tpNm (k : Nat) : ByteArray := tpL.getD k ⟨#[]⟩
def tpKs : Nat → List Nat
  | 0 => [0]
  | 1 => [1]
  | 2 => [2]
  | 3 => [4]
  | 4 => [5]
  | 5 => [7]
  | 6 => [11]
  | 7 => [0, 0]
  | 8 => [0, 1]
  | 9 => [0, 4]
  | 10 => [9]
  | 11 => [3]
  | 12 => [0, 11]
  | 13 => [4, 4]
  | 14 => [0, 0, 0]
  | 15 => [1, 1]
  | 16 => [8]
  | 17 => [6]
  | _ => [10]
def tpN (k : Nat) : Int := (rkS (tpKs k) : Nat)
def tpD (k : Nat) : List Int := (matOf (tpKs k)).2
def chkTp (k : Nat) : Bool := cF (tpNm k) == some (tpKs k) && decide (1 ≤ tpN k) && decide (tpN k ≤ 4) && ((tpD k).length == ((tpN k) * (tpN k)).toNat) && (tyS (tpN k) (tpD k)).isSome && (ordP (tpN k).toNat).all fun o => tyS (tpN k) (subD (tpN k) (tpD k) o) == tyS (tpN k) (tpD k)
set_option maxRecDepth 100000 in
theorem chkTp_a : (List.range 10).all chkTp = true := by decide +kernel
set_option maxRecDepth 100000 in
theorem chkTp_b : (List.range 3).all (fun k => chkTp (k + 10)) = true := by decide +kernel
set_option maxRecDepth 100000 in
theorem chkTp_c : (List.range 3).all (fun k => chkTp (k + 13)) = true := by decide +kernel
set_option maxRecDepth 100000 in
theorem chkTp_d : (List.range 3).all (fun k => chkTp (k + 16)) = true := by decide +kernel
theorem tpOk {k : Nat} (hk : k < 19) : cR (tpNm k) = tpN k ∧ cD (tpNm k) = tpD k ∧ cF (tpNm k) = some (tpKs k) ∧ (1 ≤ tpN k ∧ tpN k ≤ 4) ∧ (tyS (tpN k) (tpD k)).isSome = true ∧ ∀ o ∈ ordP (tpN k).toNat, tyS (tpN k) (subD (tpN k) (tpD k) o) = tyS (tpN k) (tpD k) := by
  have h : chkTp k = true := by
    rcases (by omega : k < 10 ∨ (10 ≤ k ∧ k < 13) ∨ (13 ≤ k ∧ k < 16) ∨ (16 ≤ k ∧ k < 19)) with h | h | h | h
    · exact List.all_eq_true.1 chkTp_a k (List.mem_range.2 h)
    · have := List.all_eq_true.1 chkTp_b (k - 10) (List.mem_range.2 (by omega)); rwa [show k - 10 + 10 = k by omega] at this
    · have := List.all_eq_true.1 chkTp_c (k - 13) (List.mem_range.2 (by omega)); rwa [show k - 13 + 13 = k by omega] at this
    · have := List.all_eq_true.1 chkTp_d (k - 16) (List.mem_range.2 (by omega)); rwa [show k - 16 + 16 = k by omega] at this
  simp only [chkTp, Bool.and_eq_true, beq_iff_eq, decide_eq_true_eq, List.all_eq_true] at h
  obtain ⟨⟨⟨⟨⟨a, b⟩, c⟩, e⟩, f⟩, g⟩ := h
  exact ⟨by rw [cR, a]; rfl, by rw [cD, a]; rfl, a, ⟨b, c⟩, f, g⟩
theorem tpNm_all : (List.range 19).all (fun k => Nat.ble (tpNm k).size 20) = true := by decide +kernel
theorem tpNm_sz {k : Nat} (hk : k < 19) : (tpNm k).size ≤ 20 := Nat.le_of_ble_eq_true (List.all_eq_true.1 tpNm_all k (List.mem_range.2 hk))
theorem cd_small {n : Int} {d : List Int} (h : (tyS n d).isSome = true) : d.length ≤ 16 := by
  obtain ⟨h1, h2⟩ := tyS_ok h
  rcases (by omega : n = 1 ∨ n = 2 ∨ n = 3 ∨ n = 4) with rfl | rfl | rfl | rfl <;> omega
theorem ordP_next {a k : Nat} {os : List Int} (ho : os ∈ ordP a) (hl : os.length = a) (hk : k ≤ a) : (((os.drop 0).take (k - 0)) ++ [(a : Int)]) ++ ((os.drop k).take (os.length - k)) ∈ ordP (a + 1) := by
  rw [List.drop_zero, Nat.sub_zero, show (os.drop k).take (os.length - k) = os.drop k from List.take_of_length_le (by rw [List.length_drop]; omega)]
  exact ordP_step ho hk
end Go.Proofs.YtgelkakjmbiibaaGreatDoor
