/-
  From a contract of a call's world to one in the words of XSep; and back, at the top.
-/
import Derived.Test.YtbmnnbglipkidaaPlain
import Derived.Test.YtbmnnbglipkidaaOpen
namespace Go.Proofs.Ytbmnnbglipkidaa
set_option linter.unusedVariables false
set_option linter.unusedSimpArgs false
open Go.RowKit
section
variable {P : Program} {f : FuncId} {vs : List Value} {W : World} {own : List Asn}
theorem Spec.same {v : Value} (h : ∀ w, St W w own → Calls P f vs.toArray w fun e w' => e = .returned v ∧ w = w') : Spec P f vs W own fun u ow => u = v ∧ ow = own :=
  fun w hs => (h w hs).mono fun _ _ ⟨he, hw⟩ => ⟨v, own, he, ⟨rfl, rfl⟩, hw ▸ hs⟩
theorem Spec.below {v : Value} (h : ∀ w, St W w own → Calls P f vs.toArray w fun e w' => e = .returned v ∧ Below w.heap.size w w') : Spec P f vs W own fun u ow => u = v ∧ ow = own :=
  fun w hs => (h w hs).mono fun _ _ ⟨he, hw⟩ => ⟨v, own, he, ⟨rfl, rfl⟩, hs.below hw⟩
theorem Spec.drewN {v : Value} (h : ∀ w, St W w own → Calls P f vs.toArray w fun e w' => e = .returned v ∧ ∃ n, w' = w.drewN n) : Spec P f vs W own fun u ow => u = v ∧ ow = own :=
  fun w hs => (h w hs).mono fun _ _ ⟨he, n, hw⟩ => ⟨v, own, he, ⟨rfl, rfl⟩, by subst hw; exact hs.below (below_drewN (Below.refl _ _) n)⟩
theorem Spec.ownI {e : Nat} {xs : List Int} (h : ∀ w, St W w own → Calls P f vs.toArray w fun en w' => ∃ r, en = .returned r ∧ OwnI w' w.heap.size e r xs ∧ Below w.heap.size w w') :
    Spec P f vs W own fun u ow => ∃ r0 : Value, u = r0 ∧ IsS r0 ∧ ow = ints e r0 xs :: own :=
  fun w hs => (h w hs).mono fun _ _ ⟨r, he, hO, hb⟩ => ⟨r, _, he, ⟨r, rfl, by obtain ⟨ao, cap, hr⟩ := hO.form; exact ⟨ao, _, cap, hr⟩, rfl⟩, row_push hs hO hb⟩
def frozen (W0 : World) : Asn where
  p F w := (∀ g, F g ↔ g < W0.heap.size) ∧ ∀ g, g < W0.heap.size → w.heap[g]? = W0.heap[g]?
  loc h hw := ⟨h.1, fun g hg => (hw g ((h.1 g).2 hg)).trans (h.2 g hg)⟩
theorem frozen_blocks {W W0 w : World} (h : St W w [frozen W0]) : W0.heap.size ≤ w.heap.size ∧ ∀ g, g < W0.heap.size → w.heap[g]? = W0.heap[g]? := by
  obtain ⟨_, _, _, F, hF, F1, F2, e1, _, ⟨g1, g2⟩, _⟩ := h
  refine ⟨?_, g2⟩
  rcases Nat.eq_zero_or_pos W0.heap.size with h0 | h0
  · omega
  · have := hF (W0.heap.size - 1) ((e1 _).2 (.inl ((g1 _).2 (by omega))))
    omega
theorem frozen_below {W0 w : World} (h : St W0 w [frozen W0]) : Below W0.heap.size W0 w := ⟨h.os, h.tape, h.output, (frozen_blocks h).1, (frozen_blocks h).2⟩
theorem ent_sl {W0 : World} {v : Value} {n sz : Nat} {cs : List Value} (h : Sl W0 v n sz cs) : Ent [frozen W0] fun w => Sl w v n sz cs := fun _ _ hs =>
  h.same (frozen_blocks hs).1 fun _ k _ hk => (frozen_blocks hs).2 k hk
theorem ent_ints {W0 : World} {v : Value} {xs : List Int} (h : Ints W0 v xs) : Ent [frozen W0] fun w => Ints w v xs := ent_sl h
theorem frozen_self (w : World) : St w w [frozen w] :=
  ⟨rfl, rfl, rfl, fun g => g < w.heap.size, fun _ h => h, fun g => g < w.heap.size, fun _ => False, fun g => by simp, fun _ _ h => h, ⟨fun _ => Iff.rfl, fun _ _ => rfl⟩, fun _ h => h⟩
theorem Spec.top {K : Value → List Asn → Prop} {w : World} (h : Spec P f vs w [frozen w] K) (hK : ∀ v ow, K v ow → ow = [frozen w]) : Calls P f vs.toArray w fun e w' => ∃ v, e = .returned v ∧ (∃ ow, K v ow) ∧ Below w.heap.size w w' :=
  (h w (frozen_self w)).mono fun _ _ ⟨v, own', he, hk, hs⟩ => ⟨v, he, ⟨own', hk⟩, by
    rw [hK v own' hk] at hs
    exact frozen_below hs⟩
end
end Go.Proofs.Ytbmnnbglipkidaa

namespace Go.Proofs.Ytbmnnbglipkidaa
set_option linter.unusedVariables false
set_option linter.unusedSimpArgs false
def inB (n lo hi : Int) : Bool := decide (lo ≤ n) && decide (n ≤ hi)
theorem inB_true {n lo hi : Int} (h : inB n lo hi = true) : lo ≤ n ∧ n ≤ hi := by simpa [inB] using h
theorem inB_false {n lo hi : Int} (h : inB n lo hi = false) : n < lo ∨ hi < n := by simp [inB] at h; omega
theorem inB_of {n lo hi : Int} (h : lo ≤ n) (h' : n ≤ hi) : inB n lo hi = true := by simp [inB, h, h']
theorem inB_not {n lo hi : Int} (h : ¬ (lo ≤ n ∧ n ≤ hi)) : inB n lo hi = false := by simp [inB]; omega
end Go.Proofs.Ytbmnnbglipkidaa

namespace Go.Proofs.Ytbmnnbglipkidaa
set_option linter.unusedVariables false
set_option linter.unusedSimpArgs false
open Go.ChangeShapes Go.WideShapes Go.ChangeAt Go.RowKit Go.Deep Go.Joins
theorem isS_of {w : World} {v : Value} {xs : List Int} (h : Ints w v xs) : IsS v := by
  obtain ⟨_, ao, cap, rfl, _⟩ := h
  exact ⟨_, _, _, rfl⟩
theorem len_of {w : World} {v : Value} {xs : List Int} (h : Ints w v xs) : xs.length ≤ 9223372036854775807 := by
  have := Sl.size_le h
  simpa [maxLen] using this
section
variable {H : Type} {enc : TypeId × Value → H} {P : Program} {w : World}
end
theorem Try.cellsInt : Try.prog.cellsOf 3 = 1 := by kernel_rfl
end Go.Proofs.Ytbmnnbglipkidaa
