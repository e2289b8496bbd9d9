/-
  Matrices: the plain functions of ScaleMatrix, and small laws.
-/
import Derived.Test.YtbmnnbglipkidaaZ03
import Derived.Test.YtbmnnbglipkidaaL1Add
namespace Go.Proofs.Ytbmnnbglipkidaa
set_option linter.unusedVariables false
set_option linter.unusedSimpArgs false
open Go.RowKit
theorem Spec.ownM {P : Program} {f : FuncId} {vs : List Value} {W : World} {own : List Asn} {m : Mat} (h : ∀ w, St W w own → Calls P f vs.toArray w fun en w' => ∃ r, en = .returned r ∧ OwnMat w' w.heap.size r m ∧ Below w.heap.size w w') :
    Spec P f vs W own fun u ow => ∃ r0 : Value, u = .agg #[.int .i64 m.p, .int .i64 m.r, .int .i64 m.c, r0] ∧ IsS r0 ∧ ow = ints 3 r0 m.d :: own :=
  fun w hs => (h w hs).mono fun en w' ⟨r, he, ⟨dv, hr, hO⟩, hb⟩ => ⟨r, _, he, ⟨dv, hr, by obtain ⟨ao, cap, hv⟩ := hO.form; exact ⟨ao, _, cap, hv⟩, rfl⟩, row_push hs hO hb⟩
theorem matOk_three {m : Mat} (h : matOkB m = true) : primeB m.p = true ∧ inB m.r 0 40 = true ∧ inB m.c 0 40 = true := by
  simp only [matOkB, Bool.and_eq_true] at h
  exact ⟨h.1, h.2.1, h.2.2.1⟩
theorem MatOk.get {m : Mat} (h : MatOk m) (i : Nat) : 0 ≤ m.d.getD i 0 ∧ m.d.getD i 0 ≤ 10007 := by
  have hp := h.p1
  have hp0 := h.p0
  by_cases hi : i < m.d.length
  · have := h.res (m.d.getD i 0) (by simp [List.getD, hi])
    omega
  · simp [List.getD, List.getElem?_eq_none (Nat.le_of_not_lt hi)]
theorem mulBd {a b A B : Int} (ha : 0 ≤ a ∧ a ≤ A) (hb : 0 ≤ b ∧ b ≤ B) : 0 ≤ a * b ∧ a * b ≤ A * B :=
  ⟨Int.mul_nonneg ha.1 hb.1, Int.le_trans (Int.mul_le_mul ha.2 hb.2 hb.1 (by omega)) (Int.le_refl _)⟩
def mapPre (f : Int → Int) (xs : List Int) (i : Nat) : List Int := (xs.take i).map f ++ xs.drop i
theorem mapPre_len (f : Int → Int) (xs : List Int) (i : Nat) : (mapPre f xs i).length = xs.length := by
  simp only [mapPre, List.length_append, List.length_map, List.length_take, List.length_drop]
  omega
theorem mapPre_get (f : Int → Int) (xs : List Int) (i : Nat) : (mapPre f xs i).getD i 0 = xs.getD i 0 := by
  unfold mapPre
  by_cases h : i < xs.length
  · have hl : ((xs.take i).map f).length = i := by simp; omega
    simp only [List.getD]
    rw [List.getElem?_append_right (by omega), hl]
    simp
  · have h1 : (List.map f (List.take i xs) ++ List.drop i xs).length ≤ i := by simp; omega
    simp only [List.getD]
    rw [List.getElem?_eq_none h1, List.getElem?_eq_none (by omega)]
theorem mapPre_set (f : Int → Int) {xs : List Int} {i : Nat} (h : i < xs.length) : (mapPre f xs i).set i (f (xs.getD i 0)) = mapPre f xs (i + 1) := by
  unfold mapPre
  have hl : ((xs.take i).map f).length = i := by simp; omega
  have hd : xs.drop i = xs[i]'h :: xs.drop (i + 1) := List.drop_eq_getElem_cons h
  rw [List.set_append_right _ _ (by omega), hl, Nat.sub_self, hd, List.set_cons_zero, take_succD xs i h]
  simp
theorem mapPre_all (f : Int → Int) {xs : List Int} {i : Nat} (h : xs.length ≤ i) : mapPre f xs i = xs.map f := by
  unfold mapPre
  rw [List.take_of_length_le h, List.drop_eq_nil_of_le h, List.append_nil]
end Go.Proofs.Ytbmnnbglipkidaa
