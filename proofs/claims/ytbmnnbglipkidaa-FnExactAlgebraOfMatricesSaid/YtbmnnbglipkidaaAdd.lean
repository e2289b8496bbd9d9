/-
  AddMatrices (the program's), by its contract.
-/
import Derived.Test.YtbmnnbglipkidaaPlus
namespace Go.Proofs.Ytbmnnbglipkidaa
set_option linter.unusedVariables false
set_option linter.unusedSimpArgs false
open Go.RowKit
def mat0 : Mat := ⟨0, 0, 0, []⟩
theorem MatOk.small {m : Mat} (h : MatOk m) : Small m := ⟨by have := h.p0; omega, by have := h.p1; omega, by have := h.le; omega, fun x hx => by have := h.res x hx; have := h.p1; omega⟩
structure W2F (w W : World) (a : Mat) (da : Value) (b : Mat) (db : Value) : Prop where
  size : W.heap.size = w.heap.size + 3
  below : Below w.heap.size w W
  a : Bx W w.heap.size 41 [.int .i64 a.p, .int .i64 a.r, .int .i64 a.c, da]
  b : Bx W (w.heap.size + 1) 41 [.int .i64 b.p, .int .i64 b.r, .int .i64 b.c, db]
  r : Bx W (w.heap.size + 1 + 1) 41 [.int .i64 0, .int .i64 0, .int .i64 0, .slice none 0 0]
theorem W2F.mk' (w : World) (a : Mat) (da : Value) (b : Mat) (db : Value) :
    ∃ W, W = ((w.alloc (.cells #[.int .i64 a.p, .int .i64 a.r, .int .i64 a.c, da] 41)).alloc (.cells #[.int .i64 b.p, .int .i64 b.r, .int .i64 b.c, db] 41)).alloc (.cells #[.int .i64 0, .int .i64 0, .int .i64 0, .slice none 0 0] 41) ∧ W2F w W a da b db := by
  refine ⟨_, rfl, by simp, (((Below.refl w.heap.size w).alloc (Nat.le_refl _) _).alloc (by simp) _).alloc (by simp; omega) _, ((Bx.push w _ _).alloc _).alloc _, (Bx.push' _ _ _ _ (by simp)).alloc _, Bx.push' _ _ _ _ (by simp)⟩
end Go.Proofs.Ytbmnnbglipkidaa
