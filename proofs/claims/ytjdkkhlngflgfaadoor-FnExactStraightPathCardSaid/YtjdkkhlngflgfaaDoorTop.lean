/-
  How the arguments of this seat's laws are opened, in the words of XSep.
-/
import Derived.Test.YtjdkkhlngflgfaaDoorOpen
import Derived.Test.YtjdkkhlngflgfaaDoorBr
namespace Go.Proofs.YtjdkkhlngflgfaaDoor
set_option linter.unusedVariables false
set_option linter.unusedSimpArgs false
open Go.ChangeShapes Go.WideShapes Go.ChangeAt Go.RowKit Go.Deep Go.Joins

theorem isS_of {w : World} {v : Value} {xs : List Int} (h : Ints w v xs) : IsS v := by
  obtain ⟨_, ao, cap, rfl, _⟩ := h
  exact ⟨_, _, _, rfl⟩
theorem len_of {w : World} {v : Value} {xs : List Int} (h : Ints w v xs) : xs.length ≤ 9223372036854775807 := by
  have := Sl.size_le h
  simpa [maxLen] using this
section
variable {H : Type} {enc : TypeId × Value → H} {P : Program} {w : World}
theorem intsTop {t e base : Nat} (ht : P.underlying t = some (.slice e)) (he : P.underlying e = some (.int .i64)) (hc : P.cellsOf e = 1) {v : Value} {d : DataW H} {p : List MemPlace}
    (hv : Value.okWide P w .any base t v) (h : DataW.Trod enc P w 0 (fun _ => true) true t v d p) : ∃ xs, Ints w v xs ∧ ∀ n ∈ xs, (Lit.int .i64 n).wf = true := by
  obtain ⟨a0, l0, c0, rfl⟩ := okWide_slice ht hv
  obtain ⟨fuel, hf⟩ := h
  exact ints_of_trod ht he hc hf
end
theorem Tryd.cellsInt : Tryd.prog.cellsOf 3 = 1 := by kernel_rfl
theorem Tryd.cellsCartan : Tryd.prog.cellsOf 24 = 2 := by kernel_rfl
set_option maxRecDepth 100000 in
theorem openCartan {H : Type} {enc : TypeId × Value → H} {w : World} {base : Nat} {v : Value} {d : DataW H} {p : List MemPlace}
    (hv : Value.okWide Tryd.prog w .any base 24 v) (h : DataW.Trod enc Tryd.prog w 0 (fun _ => true) true 24 v d p) : ∃ k0 v1 xs, v = .agg #[.int .i64 k0, v1] ∧ Ints w v1 xs ∧ ((Lit.int .i64 k0).wf = true ∧ ∀ n ∈ xs, (Lit.int .i64 n).wf = true) := by
  obtain ⟨v0, v1, y0, y1, n, rfl, _, _, h0, h1⟩ := open_agg2 Tryd.underlying24 (by kernel_rfl) Tryd.cellsCartan hv h
  obtain ⟨k0, e0, hw0⟩ := DataW.trod_int Tryd.underlying3 h0
  obtain ⟨xs, hI, hw⟩ := ints_of_trod Tryd.underlying22 Tryd.underlying3 Tryd.cellsInt h1
  simp only [List.cons.injEq, and_true] at e0
  subst e0
  exact ⟨k0, v1, xs, rfl, hI, hw0.2, hw⟩

end Go.Proofs.YtjdkkhlngflgfaaDoor
