/-
  How an argument of type laws.Matrix is opened.
-/
import Derived.Test.YtiapoopcicjldaaOpen
import Derived.Test.YtiapoopcicjldaaMat
namespace Go.Proofs.Ytiapoopcicjldaa
open Go.ChangeShapes Go.WideShapes Go.ChangeAt Go.RowKit Go.Deep Go.Joins

theorem Try.cells3 : Try.prog.cellsOf 3 = 1 := by kernel_rfl
theorem Try.cells44 : Try.prog.cellsOf 44 = 4 := by kernel_rfl

set_option maxRecDepth 100000 in
theorem isMat_of_trod {H : Type} {enc : TypeId × Value → H} {w : World} {base : Nat} {v : Value} {d : DataW H} {p : List MemPlace}
    (hv : Value.okWide Try.prog w .any base 44 v) (h : DataW.Trod enc Try.prog w 0 (fun _ => true) true 44 v d p) : ∃ m, IsMat w v m := by
  obtain ⟨v0, v1, v2, v3, y0, y1, y2, y3, n, rfl, _, _, h0, h1, h2, h3⟩ := open_agg4 Try.underlying44 (by kernel_rfl) Try.cells44 hv h
  obtain ⟨k0, e0, _⟩ := DataW.trod_int Try.underlying3 h0
  obtain ⟨k1, e1, _⟩ := DataW.trod_int Try.underlying3 h1
  obtain ⟨k2, e2, _⟩ := DataW.trod_int Try.underlying3 h2
  obtain ⟨xs, hI, _⟩ := ints_of_trod Try.underlying23 Try.underlying3 Try.cells3 h3
  simp only [List.cons.injEq, and_true] at e0 e1 e2
  subst e0 e1 e2
  exact ⟨⟨k0, k1, k2, xs⟩, v3, rfl, hI⟩

end Go.Proofs.Ytiapoopcicjldaa
