/-
  Matrices: the plain functions of ScaleMatrix, and small laws.
-/
import Derived.Test.YtiapoopcicjldaaBr
import Derived.Test.YtiapoopcicjldaaL1Add
namespace Go.Proofs.Ytiapoopcicjldaa
set_option linter.unusedVariables false
set_option linter.unusedSimpArgs false
open Go.RowKit

theorem Spec.ownM {P : Program} {f : FuncId} {vs : List Value} {W : World} {own : List Asn} {m : Mat} (h : ∀ w, St W w own → Calls P f vs.toArray w fun en w' => ∃ r, en = .returned r ∧ OwnMat w' w.heap.size r m ∧ Below w.heap.size w w') :
    Spec P f vs W own fun u ow => ∃ r0 : Value, u = .agg #[.int .i64 m.p, .int .i64 m.r, .int .i64 m.c, r0] ∧ IsS r0 ∧ ow = ints 3 r0 m.d :: own :=
  fun w hs => (h w hs).mono fun en w' ⟨r, he, ⟨dv, hr, hO⟩, hb⟩ => ⟨r, _, he, ⟨dv, hr, by obtain ⟨ao, cap, hv⟩ := hO.form; exact ⟨ao, _, cap, hv⟩, rfl⟩, row_push hs hO hb⟩

def zeroM (p r c : Int) : Mat := ⟨p, r, c, List.replicate (r * c).toNat 0⟩
def scaleMF (a : Mat) (k : Int) : Mat := if matOkB a then plusF (zeroM a.p a.r a.c) (k % a.p) a else mat0
theorem zeroM_len {a : Mat} (h : MatOk a) : (zeroM a.p a.r a.c).d.length = a.d.length := by
  have := h.len
  simp only [zeroM, List.length_replicate]
  omega
theorem zeroM_small {a : Mat} (h : MatOk a) : Small (zeroM a.p a.r a.c) := by
  have h0 := h.small
  refine ⟨h0.1, h0.2.1, by rw [zeroM_len h]; exact h0.2.2.1, fun x hx => ?_⟩
  simp only [zeroM, List.mem_replicate] at hx
  omega
theorem matOk_three {m : Mat} (h : matOkB m = true) : primeB m.p = true ∧ inB m.r 0 40 = true ∧ inB m.c 0 40 = true := by
  simp only [matOkB, Bool.and_eq_true] at h
  exact ⟨h.1, h.2.1, h.2.2.1⟩
theorem MatOk.get {m : Mat} (h : MatOk m) (i : Nat) : 0 ≤ m.d.getD i 0 ∧ m.d.getD i 0 ≤ 10007 := by
  have hp := h.p1
  have hp0 := h.p0
  by_cases hi : i < m.d.length
  · have := h.res (m.d.getD i 0) (by simp [List.getD, hi])
    omega
  · simp [List.getD, List.getElem?_eq_none (Nat.le_of_not_lt hi)]
theorem addF_rep (k p : Int) : ∀ ys : List Int, addF k p (List.replicate ys.length 0) ys = ys.map fun y => (0 + k * y) % p
  | [] => rfl
  | y :: ys => by simp [List.replicate_succ, addF, addF_rep k p ys]
theorem scale_eq {p r c k : Int} {d : List Int} (h : matOkB ⟨p, r, c, d⟩ = true) : (scaleMF ⟨p, r, c, d⟩ k).d = d.map fun x => (x * (k % p)).tmod p := by
  have ok := matOk_of h
  have hl := ok.len
  have hp0 := ok.p0
  simp only at hl hp0
  have hk0 : 0 ≤ k % p := Int.emod_nonneg _ (by omega)
  rw [scaleMF, if_pos h]
  simp only [plusF, zeroM]
  have e : (r * c).toNat = d.length := by omega
  rw [e, addF_rep]
  refine List.map_congr_left fun x hx => ?_
  have hx' := (ok.res x hx).1
  rw [Int.tmod_eq_emod_of_nonneg (Int.mul_nonneg hx' hk0), Int.zero_add, Int.mul_comm]
theorem scaleMF_len (a : Mat) (k : Int) : (scaleMF a k).d.length ≤ 1600 := by
  unfold scaleMF
  split
  · rename_i h
    have ok := matOk_of h
    have := ok.le
    simp only [plusF, addF_len]
    rw [zeroM_len ok]
    exact this
  · simp [mat0]
theorem mulBd {a b A B : Int} (ha : 0 ≤ a ∧ a ≤ A) (hb : 0 ≤ b ∧ b ≤ B) : 0 ≤ a * b ∧ a * b ≤ A * B :=
  ⟨Int.mul_nonneg ha.1 hb.1, Int.le_trans (Int.mul_le_mul ha.2 hb.2 hb.1 (by omega)) (Int.le_refl _)⟩

/-- The first i elements turned by f. -/
def mapPre (f : Int → Int) (xs : List Int) (i : Nat) : List Int := (xs.take i).map f ++ xs.drop i
theorem mapPre_len (f : Int → Int) (xs : List Int) (i : Nat) : (mapPre f xs i).length = xs.length := by
  simp only [mapPre, List.length_append, List.length_map, List.length_take, List.length_drop]
  omega
theorem mapPre_get (f : Int → Int) (xs : List Int) (i : Nat) : (mapPre f xs i).getD i 0 = xs.getD i 0 := by
  unfold mapPre
  by_cases h : i < xs.length
  · have hl : ((xs.take i).map f).length = i := by simp; omega
    simp only [List.getD]
    rw [List.getElem?_append_right (by omega), hl]
    simp
  · have h1 : (List.map f (List.take i xs) ++ List.drop i xs).length ≤ i := by simp; omega
    simp only [List.getD]
    rw [List.getElem?_eq_none h1, List.getElem?_eq_none (by omega)]
theorem mapPre_set (f : Int → Int) {xs : List Int} {i : Nat} (h : i < xs.length) : (mapPre f xs i).set i (f (xs.getD i 0)) = mapPre f xs (i + 1) := by
  unfold mapPre
  have hl : ((xs.take i).map f).length = i := by simp; omega
  have hd : xs.drop i = xs[i]'h :: xs.drop (i + 1) := List.drop_eq_getElem_cons h
  rw [List.set_append_right _ _ (by omega), hl, Nat.sub_self, hd, List.set_cons_zero, take_succD xs i h]
  simp
theorem mapPre_all (f : Int → Int) {xs : List Int} {i : Nat} (h : xs.length ≤ i) : mapPre f xs i = xs.map f := by
  unfold mapPre
  rw [List.take_of_length_le h, List.drop_eq_nil_of_le h, List.append_nil]

end Go.Proofs.Ytiapoopcicjldaa
