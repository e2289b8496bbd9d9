/-
  How a slice of bytes that comes in is opened.
-/
import Derived.Test.YtiapoopcicjldaaTop
import Derived.Test.YtiapoopcicjldaaDrw
namespace Go.Proofs.Ytiapoopcicjldaa
set_option linter.unusedVariables false
set_option linter.unusedSimpArgs false
open Go.ChangeShapes Go.WideShapes Go.ChangeAt Go.RowKit Go.Deep Go.Joins

section
variable {H : Type} {enc : TypeId × Value → H} {P : Program} {w : World}
theorem bytes_of_trod {t e : TypeId} (ht : P.underlying t = some (.slice e)) (he : P.underlying e = some (.int .u8)) (hc : P.cellsOf e = 1) {fuel : Nat} {v : Value} {x : DataW H × List MemPlace}
    (h : DataW.trod enc P w 0 (fun _ => true) true fuel t [v] = some x) : ∃ xs, Byts w v xs := by
  rcases open_ints ht he hc h with ⟨hcs, _⟩ | ⟨a, len, cap, zs, hcs, _, hl, hm, hz, _, hcell, hwz⟩
  · simp at hcs
    subst hcs
    exact ⟨[], Sl.nil w 1⟩
  · simp at hcs
    subst hcs
    simp only [if_true] at hz
    have hlen : (zs.take len).length = len := by simp; omega
    refine ⟨zs.take len, ⟨by simp, some a, cap, by rw [hlen], by omega, hm, (fun h => by cases h), fun hpos => ?_⟩⟩
    rw [hlen] at hpos
    obtain ⟨b, off, spot⟩ := a
    have hspot : spot = none := by simpa [Addr.add] using World.cell?_spot (hcell 0 (by omega))
    subst hspot
    refine ⟨b, off, rfl, by have := World.block_lt_of_cell? w _ (hcell 0 (by omega)); simpa [Addr.add] using this, fun k hk => ?_⟩
    rw [hlen, Nat.mul_one] at hk
    rw [← add_plain, hcell k (by omega)]
    simp [List.getD, hk, show k < zs.length by omega]
theorem bytesTop {t e base : Nat} (ht : P.underlying t = some (.slice e)) (he : P.underlying e = some (.int .u8)) (hc : P.cellsOf e = 1) {v : Value} {d : DataW H} {p : List MemPlace}
    (hv : Value.okWide P w .any base t v) (h : DataW.Trod enc P w 0 (fun _ => true) true t v d p) : ∃ xs, Byts w v xs := by
  obtain ⟨a0, l0, c0, rfl⟩ := okWide_slice ht hv
  obtain ⟨fuel, hf⟩ := h
  exact bytes_of_trod ht he hc hf
end
theorem isS_byts {w : World} {v : Value} {xs : List Int} (h : Byts w v xs) : IsS v := by
  obtain ⟨_, ao, cap, rfl, _⟩ := h
  exact ⟨_, _, _, rfl⟩
theorem len_byts {w : World} {v : Value} {xs : List Int} (h : Byts w v xs) : xs.length ≤ 9223372036854775807 := by
  have := Sl.size_le h
  simpa [maxLen] using this
theorem Try.cellsU8 : Try.prog.cellsOf 5 = 1 := by kernel_rfl
end Go.Proofs.Ytiapoopcicjldaa
