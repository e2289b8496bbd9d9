/-
  How the arguments of this seat's laws are opened, in the words of XSep.
-/
import Derived.Test.YtiapoopcicjldaaOpen
import Derived.Test.YtiapoopcicjldaaBr
namespace Go.Proofs.Ytiapoopcicjldaa
set_option linter.unusedVariables false
set_option linter.unusedSimpArgs false
open Go.ChangeShapes Go.WideShapes Go.ChangeAt Go.RowKit Go.Deep Go.Joins

theorem isS_of {w : World} {v : Value} {xs : List Int} (h : Ints w v xs) : IsS v := by
  obtain ⟨_, ao, cap, rfl, _⟩ := h
  exact ⟨_, _, _, rfl⟩
theorem len_of {w : World} {v : Value} {xs : List Int} (h : Ints w v xs) : xs.length ≤ 9223372036854775807 := by
  have := Sl.size_le h
  simpa [maxLen] using this
section
variable {H : Type} {enc : TypeId × Value → H} {P : Program} {w : World}
theorem intsTop {t e base : Nat} (ht : P.underlying t = some (.slice e)) (he : P.underlying e = some (.int .i64)) (hc : P.cellsOf e = 1) {v : Value} {d : DataW H} {p : List MemPlace}
    (hv : Value.okWide P w .any base t v) (h : DataW.Trod enc P w 0 (fun _ => true) true t v d p) : ∃ xs, Ints w v xs ∧ ∀ n ∈ xs, (Lit.int .i64 n).wf = true := by
  obtain ⟨a0, l0, c0, rfl⟩ := okWide_slice ht hv
  obtain ⟨fuel, hf⟩ := h
  exact ints_of_trod ht he hc hf
end
theorem Try.cellsMatrix : Try.prog.cellsOf 44 = 4 := by kernel_rfl
theorem Try.cellsInt : Try.prog.cellsOf 3 = 1 := by kernel_rfl
set_option maxRecDepth 100000 in
theorem openMatrix {H : Type} {enc : TypeId × Value → H} {w : World} {base : Nat} {v : Value} {d : DataW H} {p : List MemPlace}
    (hv : Value.okWide Try.prog w .any base 44 v) (h : DataW.Trod enc Try.prog w 0 (fun _ => true) true 44 v d p) : ∃ k0 k1 k2 v3 xs, v = .agg #[.int .i64 k0, .int .i64 k1, .int .i64 k2, v3] ∧ Ints w v3 xs ∧ ∀ n ∈ xs, (Lit.int .i64 n).wf = true := by
  obtain ⟨v0, v1, v2, v3, y0, y1, y2, y3, n, rfl, _, _, h0, h1, h2, h3⟩ := open_agg4 Try.underlying44 (by kernel_rfl) Try.cellsMatrix hv h
  obtain ⟨k0, e0, _⟩ := DataW.trod_int Try.underlying3 h0
  obtain ⟨k1, e1, _⟩ := DataW.trod_int Try.underlying3 h1
  obtain ⟨k2, e2, _⟩ := DataW.trod_int Try.underlying3 h2
  obtain ⟨xs, hI, hw⟩ := ints_of_trod Try.underlying23 Try.underlying3 Try.cellsInt h3
  simp only [List.cons.injEq, and_true] at e0 e1 e2
  subst e0 e1 e2
  exact ⟨k0, k1, k2, v3, xs, rfl, hI, hw⟩

end Go.Proofs.Ytiapoopcicjldaa
