/-
  Coordinates in free rows: by the reduction with a unit matrix behind, and by the reduction of the transposed system. No program is spoken of.
-/
import Derived.Test.YtbmnnbglipkidaaLis
namespace Go.Proofs.Ytbmnnbglipkidaa
set_option linter.unusedVariables false
set_option linter.unusedSimpArgs false
set_option linter.unusedVariables false
set_option linter.unusedSimpArgs false
def eL (n i : Nat) : List Int := (List.replicate n 0).set i 1
def extE (M : List (List Int)) : List (List Int) := (List.range M.length).map fun i => M.getD i [] ++ eL M.length i
def adR (p f : Int) (x y : List Int) : List Int := (List.range x.length).map fun j => (x.getD j 0 + f * y.getD j 0) % p
def cdS (p : Int) (m : Nat) (L : List (List Int)) (ps : List Int) (s : List Int × List Int) (i : Nat) : List Int × List Int :=
  if s.1.getD (ps.getD i 0).toNat 0 = 0 then s else (adR p (p - s.1.getD (ps.getD i 0).toNat 0) s.1 ((L.getD i []).take m), adR p (s.1.getD (ps.getD i 0).toNat 0) s.2 ((L.getD i []).drop m))
def cdA (p : Int) (m n : Nat) (L : List (List Int)) (ps v : List Int) (t : Nat) : List Int × List Int := (List.range t).foldl (cdS p m L ps) (v, List.replicate n 0)
def augF (M : List (List Int)) (m : Nat) (v : List Int) : List (List Int) := (List.range m).map fun i => ((List.range M.length).map fun k => at2 M k i) ++ [v.getD i 0]
def slX (n : Nat) (L : List (List Int)) (qs : List Int) (t : Nat) : List Int := (List.range t).foldl (fun x i => x.set (qs.getD i 0).toNat (at2 L i n)) (List.replicate n 0)
theorem sm_split (m : Nat) (f : Nat → Int) : ∀ n, sm (m + n) f = sm m f + sm n fun k => f (m + k)
  | 0 => by simp [sm]
  | n + 1 => by
    rw [show m + (n + 1) = m + n + 1 by omega, sm, sm_split m f n, sm]
    omega
section
variable {p : Int} {iv : Int → Int} {m n c : Nat} {M L : List (List Int)} {v : List Int} {s : List (List Int) × List Int}
theorem extE_len : (extE M).length = M.length := by simp [extE]
theorem extE_get {i : Nat} (hi : i < M.length) : (extE M).getD i [] = M.getD i [] ++ eL M.length i := by simp [extE, List.getD, hi]
theorem extE_lo {i j : Nat} (hM : (M.getD i []).length = m) (hi : i < M.length) (hj : j < m) : at2 (extE M) i j = at2 M i j := by
  unfold at2
  rw [extE_get hi]
  simp only [List.getD] at hM ⊢
  rw [List.getElem?_append_left (by omega)]
theorem extE_hi {i k : Nat} (hM : (M.getD i []).length = m) (hi : i < M.length) (hk : k < M.length) : at2 (extE M) i (m + k) = if k = i then 1 else 0 := by
  unfold at2
  rw [extE_get hi]
  simp only [List.getD] at hM ⊢
  rw [List.getElem?_append_right (by omega), hM, Nat.add_sub_cancel_left]
  by_cases e : k = i
  · subst e
    simp [eL, hk]
  · have e2 : ¬ i = k := fun h => e h.symm
    simp [eL, List.getElem_set, hk, e, e2]
theorem rows_comb (hn : M.length = n) (hM : ∀ i, i < n → (M.getD i []).length = m) (h : RdI p (m + n) (extE M) c s) {i j : Nat} (hi : i < n) (hj : j < m) : cg p (at2 s.1 i j) (sm n fun k => at2 s.1 i (m + k) * at2 M k j) := by
  have hz : ∀ A : Nat → Nat → Int, ∀ i, (sm (m + n) fun q => A i q * (if q = j then 1 else if q < m then 0 else -at2 M (q - m) j)) = A i j - sm n fun k => A i (m + k) * at2 M k j := fun A i => by
    rw [sm_split, sm_pick (r := j) hj (fun q hq hne => by rw [if_neg hne, if_pos hq, Int.mul_zero]), if_pos rfl, Int.mul_one, Int.sub_eq_add_neg, ← Int.neg_one_mul (sm n _), ← sm_mulL]
    exact congrArg _ (sm_congr fun k hk => by
      rw [if_neg (by omega), if_neg (by omega), Nat.add_sub_cancel_left, Int.mul_neg, Int.neg_one_mul])
  have h1 := (h.kr fun q => if q = j then 1 else if q < m then 0 else -at2 M (q - m) j).1 (fun i' hi' => by
    rw [extE_len, hn] at hi'
    rw [hz]
    refine cg.of_eq ?_
    rw [extE_lo (hM i' hi') (by omega) hj, sm_pick (r := i') hi' (fun k hk hne => by rw [extE_hi (hM i' hi') (by omega) (by omega), if_neg hne, Int.zero_mul]), extE_hi (hM i' hi') (by omega) (by omega), if_pos rfl, Int.one_mul, Int.sub_self]) i (by rw [extE_len, hn]; exact hi)
  rw [hz] at h1
  have h2 := h1.add (cg.refl (sm n fun k => at2 s.1 i (m + k) * at2 M k j))
  rw [Int.zero_add, Int.sub_add_cancel] at h2
  exact h2
theorem rows_free (hn : M.length = n) (hM : ∀ i, i < n → (M.getD i []).length = m) (h : RdI p (m + n) (extE M) c s) (hf : s.2.length = n) (hps : ∀ i, i < n → s.2.getD i 0 < (m : Int)) {x : Nat → Int} (hx : ∀ j, j < m → cg p (sm n fun k => x k * at2 M k j) 0) :
    ∀ k, k < n → cg p (x k) 0 := by
  have hl : (extE M).length = n := extE_len.trans hn
  obtain ⟨y, hy⟩ := h.fw x
  rw [hl] at hy
  have h0 : ∀ i, i < n → cg p (y i) 0 := fun i hi => by
    have q := h.pv i (by omega)
    have q2 := hps i hi
    have h1 := hy (s.2.getD i 0).toNat
    have e1 : cmb n y (at2 s.1) (s.2.getD i 0).toNat = y i := by
      unfold cmb
      rw [sm_pick (r := i) hi (fun k hk hne => by rw [h.zer i k (by omega) hne, Int.mul_zero]), h.one i (by omega), Int.mul_one]
    have e2 : cmb n x (at2 (extE M)) (s.2.getD i 0).toNat = sm n fun k => x k * at2 M k (s.2.getD i 0).toNat := sm_congr fun k hk => by rw [extE_lo (hM k hk) (by omega) (by omega)]
    rw [e1, e2] at h1
    exact h1.symm.trans (hx _ (by omega))
  intro k hk
  have h1 := hy (m + k)
  have e2 : cmb n x (at2 (extE M)) (m + k) = x k := by
    unfold cmb
    rw [sm_pick (r := k) hk (fun i hi hne => by rw [extE_hi (hM i hi) (by omega) (by omega), if_neg (fun e => hne e.symm), Int.mul_zero]), extE_hi (hM k hk) (by omega) (by omega), if_pos rfl, Int.mul_one]
  rw [e2] at h1
  refine h1.trans ?_
  have h3 : cg p (cmb n y (at2 s.1) (m + k)) (sm n fun i => 0 * at2 s.1 i (m + k)) := sm_cg fun i hi => (h0 i hi).mulR _
  exact h3.trans (cg.of_eq (sm_zero fun i _ => Int.zero_mul _))
theorem adR_at {f : Int} {x y : List Int} (h : x.length = y.length) (j : Nat) : (adR p f x y).getD j 0 = (x.getD j 0 + f * y.getD j 0) % p := by
  by_cases hj : j < x.length
  · simp [adR, List.getD, hj]
  · simp [adR, List.getD, show x.length ≤ j by omega, show y.length ≤ j by omega]
theorem drop_getD {x : List Int} {j : Nat} : (x.drop m).getD j 0 = x.getD (m + j) 0 := by simp [List.getD, List.getElem?_drop]
structure CdI (p : Int) (m n : Nat) (L : List (List Int)) (ps v : List Int) (t : Nat) (s : List Int × List Int) : Prop where
  l1 : s.1.length = m
  l2 : s.2.length = n
  r1 : ∀ j, 0 ≤ s.1.getD j 0 ∧ s.1.getD j 0 < p
  r2 : ∀ j, 0 ≤ s.2.getD j 0 ∧ s.2.getD j 0 < p
  c1 : ∀ j, j < m → cg p (s.1.getD j 0) (v.getD j 0 - sm t fun i => v.getD (ps.getD i 0).toNat 0 * at2 L i j)
  c2 : ∀ k, k < n → cg p (s.2.getD k 0) (sm t fun i => v.getD (ps.getD i 0).toNat 0 * at2 L i (m + k))
theorem CdI.all (hp : 2 ≤ p) {E : List (List Int)} (h : RdI p (m + n) E c s) (hE : E.length = n) (hv : v.length = m) (hvr : ∀ j, 0 ≤ v.getD j 0 ∧ v.getD j 0 < p) (hps : ∀ i, i < s.2.length → s.2.getD i 0 < (m : Int)) : ∀ t, t ≤ s.2.length → CdI p m n s.1 s.2 v t (cdA p m n s.1 s.2 v t)
  | 0, _ => ⟨hv, by simp [cdA], hvr, fun j => by
      have : (List.replicate n (0 : Int)).getD j 0 = 0 := by simp [List.getD, List.getElem?_replicate]; split <;> rfl
      simp only [cdA, List.range_zero, List.foldl_nil, this]; omega, fun j _ => cg.of_eq (by simp [cdA, sm]), fun k _ => cg.of_eq (by simp [cdA, sm, List.getD, List.getElem?_replicate]; split <;> rfl)⟩
  | t + 1, ht => by
    have ih := CdI.all hp h hE hv hvr hps t (by omega)
    have hfew := h.few
    have q := h.pv t (by omega)
    have q2 := hps t (by omega)
    have e0 : cdA p m n s.1 s.2 v (t + 1) = cdS p m s.1 s.2 (cdA p m n s.1 s.2 v t) t := by rw [cdA, List.range_succ, List.foldl_append]; rfl
    rw [e0]
    generalize cdA p m n s.1 s.2 v t = u at ih
    have hk : u.1.getD (s.2.getD t 0).toNat 0 = v.getD (s.2.getD t 0).toNat 0 := by
      refine cg.eq ((ih.c1 _ (by omega)).trans (cg.of_eq ?_)) (ih.r1 _) (hvr _)
      rw [sm_zero fun i hi => by rw [h.zer t i (by omega) (by omega), Int.mul_zero], Int.sub_zero]
    have hrow : (s.1.getD t []).length = m + n := h.rows t (by omega)
    unfold cdS
    rw [hk]
    split
    · rename_i h0
      refine ⟨ih.l1, ih.l2, ih.r1, ih.r2, fun j hj => ?_, fun k hk => ?_⟩
      · rw [sm, h0, Int.zero_mul, Int.add_zero]; exact ih.c1 j hj
      · rw [sm, h0, Int.zero_mul, Int.add_zero]; exact ih.c2 k hk
    · have a1 : ∀ j, (adR p (p - v.getD (s.2.getD t 0).toNat 0) u.1 ((s.1.getD t []).take m)).getD j 0 = (u.1.getD j 0 + (p - v.getD (s.2.getD t 0).toNat 0) * ((s.1.getD t []).take m).getD j 0) % p := adR_at (by rw [ih.l1, List.length_take]; omega)
      have a2 : ∀ j, (adR p (v.getD (s.2.getD t 0).toNat 0) u.2 ((s.1.getD t []).drop m)).getD j 0 = (u.2.getD j 0 + v.getD (s.2.getD t 0).toNat 0 * ((s.1.getD t []).drop m).getD j 0) % p := adR_at (by rw [ih.l2, List.length_drop]; omega)
      refine ⟨by simp [adR, ih.l1], by simp [adR, ih.l2], fun j => by rw [a1]; exact ⟨Int.emod_nonneg _ (by omega), Int.emod_lt_of_pos _ (by omega)⟩, fun j => by rw [a2]; exact ⟨Int.emod_nonneg _ (by omega), Int.emod_lt_of_pos _ (by omega)⟩, fun j hj => ?_, fun k hk => ?_⟩
      · rw [a1, take_getD hj, sm]
        refine (cg.emod _).trans (((ih.c1 j hj).add (d := -(v.getD (s.2.getD t 0).toNat 0 * at2 s.1 t j)) ?_).trans (cg.of_eq (by omega)))
        refine ⟨at2 s.1 t j, ?_⟩
        show (p - v.getD (s.2.getD t 0).toNat 0) * at2 s.1 t j - _ = _
        rw [Int.sub_mul]
        omega
      · rw [a2, drop_getD, sm]
        exact (cg.emod _).trans ((ih.c2 k hk).add (cg.refl _))
end
end Go.Proofs.Ytbmnnbglipkidaa
