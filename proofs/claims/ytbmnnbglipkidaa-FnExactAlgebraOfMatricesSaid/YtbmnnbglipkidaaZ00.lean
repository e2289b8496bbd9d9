/-
  The helpers of the laws on slices of whole numbers (szIntS, toIntS, eqIntS, markIntS, heldIntS), each by its contract.
-/
import Derived.Test.YtbmnnbglipkidaaBase
namespace Go.Proofs.Ytbmnnbglipkidaa
set_option linter.unusedVariables false
set_option linter.unusedSimpArgs false
open Go.RowKit
theorem etI : ET Try.prog 24 3 1 8 (.int .i64 0) := ⟨Try.underlying24, by kernel_rfl, rfl, by omega⟩
theorem ret_bool {a b : Bool} (h : a = b) : Ending.returned (.bool a) = .returned (.bool b) := by rw [h]
theorem ret_int {a b : Int} (h : a = b) : Ending.returned (.int .i64 a) = .returned (.int .i64 b) := by rw [h]
end Go.Proofs.Ytbmnnbglipkidaa

namespace Go.Proofs.Ytbmnnbglipkidaa
set_option linter.unusedVariables false
set_option linter.unusedSimpArgs false
open Go.RowKit
structure Mat where
  p : Int
  r : Int
  c : Int
  d : List Int
  deriving DecidableEq
def IsMat (w : World) (v : Value) (m : Mat) : Prop := ∃ dv, v = .agg #[.int .i64 m.p, .int .i64 m.r, .int .i64 m.c, dv] ∧ Ints w dv m.d
def OwnMat (w : World) (B : Nat) (v : Value) (m : Mat) : Prop := ∃ dv, v = .agg #[.int .i64 m.p, .int .i64 m.r, .int .i64 m.c, dv] ∧ OwnI w B 3 dv m.d
theorem IsMat.below {w w' : World} {v : Value} {m : Mat} (h : IsMat w v m) (hb : Below w.heap.size w w') : IsMat w' v m := by
  obtain ⟨dv, h1, h2⟩ := h
  exact ⟨dv, h1, Sl.below h2 hb⟩
theorem OwnMat.below {w w' : World} {B : Nat} {v : Value} {m : Mat} (h : OwnMat w B v m) (hb : Below w.heap.size w w') : OwnMat w' B v m := by
  obtain ⟨dv, h1, h2⟩ := h
  exact ⟨dv, h1, Own.below h2 hb⟩
theorem Below.allocs {w : World} (o : Obj) : Below w.heap.size w (w.alloc o) := (Below.refl _ _).alloc (Nat.le_refl _) o
theorem bcell {W w1 : World} (hb : Below W.heap.size W w1) : (∀ b o, b < W.heap.size → w1.cell? ⟨b, o, none⟩ = W.cell? ⟨b, o, none⟩) ∧ (∀ b o, b < W.heap.size → w1.frozen? ⟨b, o, none⟩ = W.frozen? ⟨b, o, none⟩) :=
  ⟨fun b o h => hb.cell (p := ⟨b, o, none⟩) h, fun b o h => hb.frozen (p := ⟨b, o, none⟩) h⟩
end Go.Proofs.Ytbmnnbglipkidaa
