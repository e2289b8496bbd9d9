/-
  The reduction of rows modulo p, column by column, as both texts do it, and what it keeps. No program is spoken of.
-/
import Derived.Test.YtbmnnbglipkidaaLin
namespace Go.Proofs.Ytbmnnbglipkidaa
set_option linter.unusedVariables false
set_option linter.unusedSimpArgs false
set_option linter.unusedVariables false
set_option linter.unusedSimpArgs false
def at2 (L : List (List Int)) (i j : Nat) : Int := (L.getD i []).getD j 0
def rdKf (L : List (List Int)) (c : Nat) : Nat → Nat → Nat
  | 0, k => k
  | f + 1, k => if at2 L k c = 0 then rdKf L c f (k + 1) else k
def rdK (L : List (List Int)) (c r : Nat) : Nat := rdKf L c (L.length - r) r
def swR (L : List (List Int)) (r k : Nat) : List (List Int) := (L.set k (L.getD r [])).set r (L.getD k [])
def scR (p b : Int) (x : List Int) : List Int := x.map fun a => a * b % p
def elR (p f : Int) (x y : List Int) : List Int := (List.range x.length).map fun j => (x.getD j 0 - f * y.getD j 0) % p
def elS (p : Int) (r c : Nat) (A : List (List Int)) (i : Nat) : List (List Int) := if i ≠ r ∧ at2 A i c ≠ 0 then A.set i (elR p (at2 A i c) (A.getD i []) (A.getD r [])) else A
def elA (p : Int) (r c : Nat) (A : List (List Int)) : List (List Int) := (List.range A.length).foldl (elS p r c) A
def scA (p : Int) (iv : Int → Int) (r c : Nat) (A : List (List Int)) : List (List Int) := A.set r (scR p (iv (at2 A r c)) (A.getD r []))
def rdC (p : Int) (iv : Int → Int) (s : List (List Int) × List Int) (c : Nat) : List (List Int) × List Int :=
  if rdK s.1 c s.2.length < s.1.length then (elA p s.2.length c (scA p iv s.2.length c (swR s.1 s.2.length (rdK s.1 c s.2.length))), s.2 ++ [(c : Int)]) else s
def rdA (p : Int) (iv : Int → Int) (C : Nat) (L : List (List Int)) : List (List Int) × List Int := (List.range C).foldl (rdC p iv) (L, [])
section
variable {L A : List (List Int)} {c r k f i j : Nat} {p b : Int} {iv : Int → Int}
theorem rdKf_at (h : ∀ i, k ≤ i → i < j → at2 L i c = 0) (hj : k ≤ j ∧ j ≤ k + f) (he : j = k + f ∨ at2 L j c ≠ 0) : rdKf L c f k = j := by
  induction f generalizing k with
  | zero => rw [rdKf]; omega
  | succ f ih =>
    by_cases e : k = j
    · subst e
      rw [rdKf, if_neg (he.resolve_left (by omega))]
    · rw [rdKf, if_pos (h k (by omega) (by omega))]
      exact ih (fun i hi hj2 => h i (by omega) hj2) (by omega) (by omega)
theorem rdKf_is : ∀ (f k : Nat), k ≤ rdKf L c f k ∧ rdKf L c f k ≤ k + f ∧ (∀ i, k ≤ i → i < rdKf L c f k → at2 L i c = 0) ∧ (rdKf L c f k < k + f → at2 L (rdKf L c f k) c ≠ 0)
  | 0, k => ⟨by simp [rdKf], by simp [rdKf], fun i h1 h2 => by simp [rdKf] at h2; omega, fun h => by simp [rdKf] at h⟩
  | f + 1, k => by
    rw [rdKf]
    split
    · rename_i h0
      obtain ⟨h1, h2, h3, h4⟩ := rdKf_is f (k + 1)
      refine ⟨by omega, by omega, fun i hi hj => ?_, fun h => h4 (by omega)⟩
      by_cases e : i = k
      · rw [e]; exact h0
      · exact h3 i (by omega) hj
    · rename_i h0
      exact ⟨Nat.le_refl _, by omega, fun i h1 h2 => by omega, fun _ => h0⟩
theorem rdK_at (hr : r ≤ L.length) (h : ∀ i, r ≤ i → i < j → at2 L i c = 0) (hj : r ≤ j ∧ j ≤ L.length) (he : j = L.length ∨ at2 L j c ≠ 0) : rdK L c r = j := rdKf_at h (by omega) (by omega)
theorem rdK_is (hr : r ≤ L.length) : r ≤ rdK L c r ∧ rdK L c r ≤ L.length ∧ (∀ i, r ≤ i → i < rdK L c r → at2 L i c = 0) ∧ (rdK L c r < L.length → at2 L (rdK L c r) c ≠ 0) := by
  obtain ⟨h1, h2, h3, h4⟩ := rdKf_is (L := L) (c := c) (L.length - r) r
  exact ⟨h1, by unfold rdK; omega, h3, fun h => h4 (by unfold rdK at h; omega)⟩
theorem getD_set2 {α : Type} {l : List α} {i k : Nat} {a d : α} (hi : i < l.length) : (l.set i a).getD k d = if k = i then a else l.getD k d := by
  by_cases e : k = i
  · subst e
    simp [List.getD, hi]
  · simp [List.getD, List.getElem?_set_ne (Ne.symm e), e]
theorem swR_len : (swR L r k).length = L.length := by simp [swR]
theorem swR_get (hr : r < L.length) (hk : k < L.length) (i : Nat) : (swR L r k).getD i [] = if i = r then L.getD k [] else if i = k then L.getD r [] else L.getD i [] := by
  rw [swR, getD_set2 (by simpa using hr), getD_set2 hk]
theorem scA_len : (scA p iv r c A).length = A.length := by simp [scA]
theorem scA_get (hr : r < A.length) (i : Nat) : (scA p iv r c A).getD i [] = if i = r then scR p (iv (at2 A r c)) (A.getD r []) else A.getD i [] := by
  rw [scA, getD_set2 hr]
theorem elS_len : (elS p r c A i).length = A.length := by
  unfold elS
  split <;> simp
theorem elS_fold_len (l : List Nat) : ∀ A : List (List Int), (l.foldl (elS p r c) A).length = A.length := by
  induction l with
  | nil => exact fun _ => rfl
  | cons i l ih => exact fun A => (ih _).trans elS_len
theorem elS_get (hi : i < A.length) (k : Nat) : (elS p r c A i).getD k [] = if k = i ∧ i ≠ r ∧ at2 A i c ≠ 0 then elR p (at2 A i c) (A.getD i []) (A.getD r []) else A.getD k [] := by
  unfold elS
  by_cases h : i ≠ r ∧ at2 A i c ≠ 0
  · rw [if_pos h, getD_set2 hi]
    simp [h]
  · rw [if_neg h, if_neg (fun e => h e.2)]
theorem elA_get : ∀ m, m ≤ A.length → ∀ k, ((List.range m).foldl (elS p r c) A).getD k [] = if k < m ∧ k ≠ r ∧ at2 A k c ≠ 0 then elR p (at2 A k c) (A.getD k []) (A.getD r []) else A.getD k []
  | 0, _, k => by simp
  | m + 1, hm, k => by
    have ih := elA_get m (by omega)
    have e1 : at2 ((List.range m).foldl (elS p r c) A) m c = at2 A m c := by
      unfold at2
      rw [ih m, if_neg (fun h => by omega)]
    rw [List.range_succ, List.foldl_append, List.foldl_cons, List.foldl_nil, elS_get (by rw [elS_fold_len]; omega), e1, ih k, ih m, ih r, if_neg (fun h : m < m ∧ _ => by omega), if_neg (fun h : r < m ∧ r ≠ r ∧ _ => h.2.1 rfl)]
    by_cases e : k = m
    · subst e
      by_cases h : k ≠ r ∧ at2 A k c ≠ 0
      · rw [if_pos ⟨rfl, h⟩, if_pos ⟨by omega, h⟩]
      · rw [if_neg (fun q => h q.2), if_neg (fun q => h q.2), if_neg (fun q => h q.2)]
    · rw [if_neg (fun q => e q.1)]
      by_cases h : k < m ∧ k ≠ r ∧ at2 A k c ≠ 0
      · rw [if_pos h, if_pos ⟨by omega, h.2⟩]
      · rw [if_neg h, if_neg (fun q => h ⟨by omega, q.2⟩)]
theorem elA_len : (elA p r c A).length = A.length := elS_fold_len _ A
theorem elA_at (k : Nat) : (elA p r c A).getD k [] = if k ≠ r ∧ at2 A k c ≠ 0 then elR p (at2 A k c) (A.getD k []) (A.getD r []) else A.getD k [] := by
  rw [elA, elA_get _ (Nat.le_refl _)]
  by_cases hk : k < A.length
  · simp [hk]
  · rw [if_neg (fun h => hk h.1), if_neg (fun h => h.2 (by unfold at2; simp [List.getD, show A.length ≤ k by omega]))]
theorem scR_at (x : List Int) (j : Nat) : (scR p b x).getD j 0 = x.getD j 0 * b % p := by
  simp only [scR, List.getD, List.getElem?_map]
  cases x[j]? <;> simp
theorem elR_at {x y : List Int} (h : x.length = y.length) (j : Nat) : (elR p b x y).getD j 0 = (x.getD j 0 - b * y.getD j 0) % p := by
  by_cases hj : j < x.length
  · simp [elR, List.getD, hj]
  · simp [elR, List.getD, show x.length ≤ j by omega, show y.length ≤ j by omega]
end
end Go.Proofs.Ytbmnnbglipkidaa
