/-
  The reduction of rows that bear a unit matrix behind them: in front it is the reduction of the rows alone. No program is spoken of.
-/
import Derived.Test.YtbmnnbglipkidaaLiz
namespace Go.Proofs.Ytbmnnbglipkidaa
set_option linter.unusedVariables false
set_option linter.unusedSimpArgs false
set_option linter.unusedVariables false
set_option linter.unusedSimpArgs false
theorem ext_getD {α : Type} {d : α} {a b : List α} (h : a.length = b.length) (h2 : ∀ i, i < a.length → a.getD i d = b.getD i d) : a = b := by
  refine List.ext_getElem h fun i hi hj => ?_
  have := h2 i hi
  simpa [List.getD, hi, hj] using this
section
variable {p : Int} {iv : Int → Int} {m c r k : Nat} {L : List (List Int)} {s : List (List Int) × List Int}
def cut (m : Nat) (L : List (List Int)) : List (List Int) := L.map (List.take m)
theorem cut_len : (cut m L).length = L.length := by simp [cut]
theorem cut_get (i : Nat) : (cut m L).getD i [] = (L.getD i []).take m := by
  simp only [cut, List.getD, List.getElem?_map]
  cases L[i]? <;> simp
theorem take_getD {x : List Int} {j : Nat} (hj : j < m) : (x.take m).getD j 0 = x.getD j 0 := by
  simp [List.getD, List.getElem?_take_of_lt hj]
theorem cut_at (i : Nat) {j : Nat} (hj : j < m) : at2 (cut m L) i j = at2 L i j := by
  unfold at2
  rw [cut_get, take_getD hj]
theorem cut_rdKf (hc : c < m) : ∀ f k, rdKf (cut m L) c f k = rdKf L c f k
  | 0, k => rfl
  | f + 1, k => by rw [rdKf, rdKf, cut_at k hc, cut_rdKf hc f]
theorem cut_rdK (hc : c < m) : rdK (cut m L) c r = rdK L c r := by unfold rdK; rw [cut_len, cut_rdKf hc]
theorem cut_scR (p b : Int) (x : List Int) : scR p b (x.take m) = (scR p b x).take m := List.map_take ..
theorem cut_elR (p b : Int) (x y : List Int) : elR p b (x.take m) (y.take m) = (elR p b x y).take m := by
  unfold elR
  rw [← List.map_take, List.take_range, List.length_take]
  refine List.map_congr_left fun j hj => ?_
  have hj2 : j < m := by have := List.mem_range.1 hj; omega
  rw [take_getD hj2, take_getD hj2]
theorem cut_rdC (hc : c < m) (hr : s.2.length ≤ s.1.length) : rdC p iv (cut m s.1, s.2) c = (cut m (rdC p iv s c).1, (rdC p iv s c).2) := by
  unfold rdC
  simp only [cut_rdK hc, cut_len]
  by_cases h : rdK s.1 c s.2.length < s.1.length
  · rw [if_pos h, if_pos h]
    have hrl : s.2.length < s.1.length := by have := (rdK_is (L := s.1) (c := c) hr).1; omega
    obtain ⟨r, hr2⟩ : ∃ r, r = s.2.length := ⟨_, rfl⟩
    obtain ⟨k, hk⟩ : ∃ k, k = rdK s.1 c s.2.length := ⟨_, rfl⟩
    rw [← hk] at h ⊢
    rw [← hr2] at hrl ⊢
    have q1 : swR (cut m s.1) r k = cut m (swR s.1 r k) := ext_getD (d := []) (by rw [swR_len, cut_len, cut_len, swR_len]) fun i _ => by
      rw [swR_get (by rw [cut_len]; exact hrl) (by rw [cut_len]; exact h)]
      simp only [cut_get]
      rw [swR_get hrl h]
      split
      · rfl
      · split <;> rfl
    have q2 : scA p iv r c (cut m (swR s.1 r k)) = cut m (scA p iv r c (swR s.1 r k)) := ext_getD (d := []) (by rw [scA_len, cut_len, cut_len, scA_len]) fun i _ => by
      rw [scA_get (by rw [cut_len, swR_len]; exact hrl), cut_at r hc]
      simp only [cut_get, cut_scR]
      rw [scA_get (by rw [swR_len]; exact hrl)]
      split <;> rfl
    have q3 : elA p r c (cut m (scA p iv r c (swR s.1 r k))) = cut m (elA p r c (scA p iv r c (swR s.1 r k))) := ext_getD (d := []) (by rw [elA_len, cut_len, cut_len, elA_len]) fun i _ => by
      rw [elA_at, cut_at i hc]
      simp only [cut_get, cut_elR]
      rw [elA_at]
      split <;> rfl
    rw [q1, q2, q3]
  · rw [if_neg h, if_neg h]
theorem rdC_few (h : s.2.length ≤ s.1.length) : (rdC p iv s c).2.length ≤ (rdC p iv s c).1.length ∧ (rdC p iv s c).1.length = s.1.length := by
  unfold rdC
  have hk := rdK_is (L := s.1) (c := c) h
  split
  · rename_i hh
    obtain ⟨k1, _⟩ := hk
    simp only [elA_len, scA_len, swR_len, List.length_append, List.length_singleton]
    exact ⟨by omega, trivial⟩
  · exact ⟨h, rfl⟩
theorem rdF_few (L : List (List Int)) : ∀ c, ((List.range c).foldl (rdC p iv) (L, [])).2.length ≤ ((List.range c).foldl (rdC p iv) (L, [])).1.length ∧ ((List.range c).foldl (rdC p iv) (L, [])).1.length = L.length
  | 0 => ⟨Nat.zero_le _, rfl⟩
  | c + 1 => by
    obtain ⟨h1, h2⟩ := rdF_few L c
    rw [List.range_succ, List.foldl_append, List.foldl_cons, List.foldl_nil]
    exact ⟨(rdC_few h1).1, (rdC_few h1).2.trans h2⟩
theorem cut_rd : ∀ c, c ≤ m → (List.range c).foldl (rdC p iv) (cut m L, []) = (cut m ((List.range c).foldl (rdC p iv) (L, [])).1, ((List.range c).foldl (rdC p iv) (L, [])).2)
  | 0, _ => rfl
  | c + 1, hc => by
    rw [List.range_succ, List.foldl_append, List.foldl_append, List.foldl_cons, List.foldl_nil, List.foldl_cons, List.foldl_nil, cut_rd c (by omega)]
    exact cut_rdC (by omega) (rdF_few L c).1
theorem rd_late (L : List (List Int)) (m : Nat) : ∀ n, (∃ qs : List Int, ((List.range (m + n)).foldl (rdC p iv) (L, [])).2 = ((List.range m).foldl (rdC p iv) (L, [])).2 ++ qs ∧ ∀ q ∈ qs, (m : Int) ≤ q) ∧
    (((List.range m).foldl (rdC p iv) (L, [])).2.length = L.length → (List.range (m + n)).foldl (rdC p iv) (L, []) = (List.range m).foldl (rdC p iv) (L, []))
  | 0 => ⟨⟨[], by simp, by simp⟩, fun _ => rfl⟩
  | n + 1 => by
    obtain ⟨⟨qs, h1, h2⟩, h3⟩ := rd_late L m n
    rw [show m + (n + 1) = m + n + 1 by omega, List.range_succ, List.foldl_append, List.foldl_cons, List.foldl_nil]
    refine ⟨?_, fun he => ?_⟩
    · clear h3
      generalize (List.range (m + n)).foldl (rdC p iv) (L, []) = s at *
      generalize ((List.range m).foldl (rdC p iv) (L, [])).2 = P at *
      unfold rdC
      split
      · refine ⟨qs ++ [((m + n : Nat) : Int)], by simp only []; rw [← List.append_assoc, ← h1], fun q hq => ?_⟩
        rcases List.mem_append.1 hq with h | h
        · exact h2 q h
        · rw [List.mem_singleton.1 h]; omega
      · exact ⟨qs, h1, h2⟩
    · rw [h3 he]
      have hf := rdF_few (p := p) (iv := iv) L m
      generalize (List.range m).foldl (rdC p iv) (L, []) = s at *
      have hk := (rdK_is (L := s.1) (c := m + n) hf.1).1
      unfold rdC
      rw [if_neg (by omega)]
end
end Go.Proofs.Ytbmnnbglipkidaa
