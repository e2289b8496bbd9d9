/-
  The system solved by the reduction with the right side behind it; coordinates by either text agree. No program is spoken of.
-/
import Derived.Test.YtbmnnbglipkidaaLiw
namespace Go.Proofs.Ytbmnnbglipkidaa
set_option linter.unusedVariables false
set_option linter.unusedSimpArgs false
set_option linter.unusedVariables false
set_option linter.unusedSimpArgs false
section
variable {p : Int} {iv : Int → Int} {m n c d : Nat} {M L : List (List Int)} {v : List Int} {s u : List (List Int) × List Int}
theorem augF_len : (augF M m v).length = m := by simp [augF]
theorem augF_get {i : Nat} (hi : i < m) : (augF M m v).getD i [] = ((List.range M.length).map fun k => at2 M k i) ++ [v.getD i 0] := by simp [augF, List.getD, hi]
theorem augF_row {i : Nat} (hi : i < m) : ((augF M m v).getD i []).length = M.length + 1 := by rw [augF_get hi]; simp
theorem augF_lo {i k : Nat} (hi : i < m) (hk : k < M.length) : at2 (augF M m v) i k = at2 M k i := by
  unfold at2
  rw [augF_get hi]
  simp [List.getD, List.getElem?_append_left, hk, at2]
theorem augF_hi {i : Nat} (hi : i < m) : at2 (augF M m v) i M.length = v.getD i 0 := by
  unfold at2
  rw [augF_get hi]
  simp [List.getD]
theorem aug_z (A : Nat → Nat → Int) (x : Nat → Int) (i : Nat) : (sm (n + 1) fun q => A i q * (if q < n then x q else -1)) = (sm n fun k => x k * A i k) - A i n := by
  rw [sm, if_neg (by omega), Int.mul_neg, Int.mul_one, ← Int.sub_eq_add_neg]
  exact congrArg (· - A i n) (sm_congr fun k hk => by rw [if_pos hk, Int.mul_comm])
theorem aug_iff (hn : M.length = n) (h : RdI p (n + 1) (augF M m v) d u) (x : Nat → Int) :
    (∀ j, j < m → cg p (sm n fun k => x k * at2 M k j) (v.getD j 0)) ↔ ∀ i, i < m → cg p ((sm n fun k => x k * at2 u.1 i k) - at2 u.1 i n) 0 := by
  have h1 := h.kr fun q => if q < n then x q else -1
  simp only [aug_z, augF_len] at h1
  rw [← h1]
  refine ⟨fun h2 i hi => ?_, fun h2 j hj => ?_⟩
  · have h3 := (h2 i hi).sub (cg.refl (v.getD i 0))
    rw [Int.sub_self] at h3
    refine (cg.of_eq ?_).trans h3
    rw [← hn, augF_hi hi]
    exact congrArg (· - v.getD i 0) (sm_congr fun k hk => by rw [augF_lo hi hk])
  · have h3 := (h2 j hj).add (cg.refl (v.getD j 0))
    rw [Int.zero_add] at h3
    refine (cg.of_eq ?_).trans h3
    rw [← hn, augF_hi hj, Int.sub_add_cancel]
    exact sm_congr fun k hk => by rw [augF_lo hj hk]
theorem slX_len (qs : List Int) : ∀ t, (slX n L qs t).length = n
  | 0 => by simp [slX]
  | t + 1 => by
    have ih := slX_len qs t
    rw [slX] at ih ⊢
    rw [List.range_succ, List.foldl_append, List.foldl_cons, List.foldl_nil, List.length_set]
    exact ih
theorem slX_next (qs : List Int) (t : Nat) : slX n L qs (t + 1) = (slX n L qs t).set (qs.getD t 0).toNat (at2 L t n) := by
  rw [slX, List.range_succ, List.foldl_append]
  rfl
theorem slX_at {qs : List Int} (hq : ∀ i, i < qs.length → 0 ≤ qs.getD i 0 ∧ qs.getD i 0 < (n : Int)) (hinc : ∀ i k, i < k → k < qs.length → qs.getD i 0 < qs.getD k 0) : ∀ t, t ≤ qs.length →
    (∀ i, i < t → (slX n L qs t).getD (qs.getD i 0).toNat 0 = at2 L i n) ∧ ∀ k, (∀ i, i < t → (qs.getD i 0).toNat ≠ k) → (slX n L qs t).getD k 0 = 0
  | 0, _ => ⟨fun i h => by omega, fun k _ => by simp [slX, List.getD, List.getElem?_replicate]; split <;> rfl⟩
  | t + 1, ht => by
    obtain ⟨h1, h2⟩ := slX_at hq hinc t (by omega)
    have q := hq t (by omega)
    refine ⟨fun i hi => ?_, fun k hk => ?_⟩
    · rw [slX_next, getD_set2 (by rw [slX_len]; omega)]
      by_cases e : i = t
      · rw [e, if_pos rfl]
      · have q1 := hq i (by omega)
        have q2 := hinc i t (by omega) (by omega)
        rw [if_neg (by omega)]
        exact h1 i (by omega)
    · rw [slX_next, getD_set2 (by rw [slX_len]; omega), if_neg (fun e => hk t (by omega) e.symm)]
      exact h2 k fun i hi => hk i (by omega)
theorem slX_rg (hp : 2 ≤ p) {qs : List Int} (hL : ∀ i j, 0 ≤ at2 L i j ∧ at2 L i j < p) (hq : ∀ i, i < qs.length → 0 ≤ qs.getD i 0 ∧ qs.getD i 0 < (n : Int)) (hinc : ∀ i k, i < k → k < qs.length → qs.getD i 0 < qs.getD k 0) (k : Nat) : 0 ≤ (slX n L qs qs.length).getD k 0 ∧ (slX n L qs qs.length).getD k 0 < p := by
  obtain ⟨h1, h2⟩ := slX_at (L := L) hq hinc qs.length (Nat.le_refl _)
  by_cases h : ∃ i, i < qs.length ∧ (qs.getD i 0).toNat = k
  · obtain ⟨i, hi, rfl⟩ := h
    rw [h1 i hi]
    exact hL i n
  · rw [h2 k fun i hi e => h ⟨i, hi, e⟩]
    omega
theorem solve_yes (hn : M.length = n) (h : RdI p (n + 1) (augF M m v) (n + 1) u) (hq : ∀ i, i < u.2.length → u.2.getD i 0 < (n : Int)) : ∀ j, j < m → cg p (sm n fun k => (slX n u.1 u.2 u.2.length).getD k 0 * at2 M k j) (v.getD j 0) := by
  have hq2 : ∀ i, i < u.2.length → 0 ≤ u.2.getD i 0 ∧ u.2.getD i 0 < (n : Int) := fun i hi => ⟨(h.pv i hi).1, hq i hi⟩
  obtain ⟨h1, h2⟩ := slX_at (L := u.1) hq2 h.inc u.2.length (Nat.le_refl _)
  refine (aug_iff hn h fun k => (slX n u.1 u.2 u.2.length).getD k 0).2 fun i hi => cg.of_eq ?_
  by_cases hil : i < u.2.length
  · have q := hq2 i hil
    rw [sm_pick (r := (u.2.getD i 0).toNat) (by omega) (fun k hk hne => ?_), h1 i hil, h.one i hil, Int.mul_one, Int.sub_self]
    by_cases e : ∃ t, t < u.2.length ∧ (u.2.getD t 0).toNat = k
    · obtain ⟨t, ht, rfl⟩ := e
      rw [h.zer t i ht (fun e => hne (by rw [e])), Int.mul_zero]
    · rw [h2 k fun t ht e2 => e ⟨t, ht, e2⟩, Int.zero_mul]
  · rw [h.bot i (by omega) n (by omega), sm_zero fun k hk => by rw [h.bot i (by omega) k (by omega), Int.mul_zero]]
    rfl
theorem solve_no (hp : 2 ≤ p) (hn : M.length = n) (h : RdI p (n + 1) (augF M m v) (n + 1) u) {i : Nat} (hi : i < u.2.length) (hq : ¬ u.2.getD i 0 < (n : Int)) (x : Nat → Int) : ¬ ∀ j, j < m → cg p (sm n fun k => x k * at2 M k j) (v.getD j 0) := fun hx => by
  have q := h.pv i hi
  have hf := h.few
  rw [augF_len] at hf
  have h1 := (aug_iff hn h x).1 hx i (by omega)
  have h2 := h.one i hi
  rw [show (u.2.getD i 0).toNat = n by omega] at h2
  rw [h2, sm_zero fun k hk => by rw [h.lft i hi k (by omega), Int.mul_zero]] at h1
  obtain ⟨k, hk⟩ := h1
  have h3 : p * k = -1 := by omega
  by_cases e : 0 ≤ k
  · have := Int.mul_nonneg (show 0 ≤ p by omega) e
    omega
  · have := Int.mul_le_mul_of_nonneg_left (show k ≤ -1 by omega) (show 0 ≤ p by omega)
    omega
theorem coord_same (hp : 2 ≤ p) (hn : M.length = n) (hM : ∀ i, i < n → (M.getD i []).length = m) (hv : v.length = m) (hvr : ∀ j, 0 ≤ v.getD j 0 ∧ v.getD j 0 < p) (h : RdI p (m + n) (extE M) c s) (hf : s.2.length = n) (hps : ∀ i, i < n → s.2.getD i 0 < (m : Int)) (hu : RdI p (n + 1) (augF M m v) (n + 1) u) :
    ((∀ j, j < m → (cdA p m n s.1 s.2 v n).1.getD j 0 = 0) ↔ ∀ i, i < u.2.length → u.2.getD i 0 < (n : Int)) ∧ ((∀ i, i < u.2.length → u.2.getD i 0 < (n : Int)) → (cdA p m n s.1 s.2 v n).2 = slX n u.1 u.2 u.2.length) := by
  have hE : (extE M).length = n := extE_len.trans hn
  have hC := CdI.all hp h hE hv hvr (fun i hi => hps i (by omega)) n (by omega)
  generalize cdA p m n s.1 s.2 v n = w at hC
  -- what stands behind, times the rows, is what was taken away in front
  have key : ∀ j, j < m → cg p (sm n fun k => w.2.getD k 0 * at2 M k j) (sm n fun i => v.getD (s.2.getD i 0).toNat 0 * at2 s.1 i j) := fun j hj => by
    refine (sm_cg (g := fun k => (sm n fun i => v.getD (s.2.getD i 0).toNat 0 * at2 s.1 i (m + k)) * at2 M k j) fun k hk => (hC.c2 k hk).mulR _).trans ?_
    have e1 : (sm n fun k => (sm n fun i => v.getD (s.2.getD i 0).toNat 0 * at2 s.1 i (m + k)) * at2 M k j) = sm n fun i => v.getD (s.2.getD i 0).toNat 0 * sm n fun k => at2 s.1 i (m + k) * at2 M k j := by
      rw [sm_congr (g := fun k => sm n fun i => v.getD (s.2.getD i 0).toNat 0 * (at2 s.1 i (m + k) * at2 M k j)) fun k _ => by rw [← sm_mulR]; exact sm_congr fun i _ => Int.mul_assoc .., sm_swap]
      exact sm_congr fun i _ => sm_mulL ..
    rw [e1]
    exact sm_cg fun i hi => ((rows_comb hn hM h hi hj).symm).mulL _
  have sol : (∀ j, j < m → w.1.getD j 0 = 0) → ∀ j, j < m → cg p (sm n fun k => w.2.getD k 0 * at2 M k j) (v.getD j 0) := fun h0 j hj => by
    refine (key j hj).trans ?_
    have h1 := (hC.c1 j hj).symm
    rw [h0 j hj] at h1
    have h2 := h1.add (cg.refl (sm n fun i => v.getD (s.2.getD i 0).toNat 0 * at2 s.1 i j))
    rw [Int.sub_add_cancel, Int.zero_add] at h2
    exact h2.symm
  have back : (∀ i, i < u.2.length → u.2.getD i 0 < (n : Int)) → (∀ j, j < m → w.1.getD j 0 = 0) ∧ w.2 = slX n u.1 u.2 u.2.length := fun hq => by
    have hq2 : ∀ i, i < u.2.length → 0 ≤ u.2.getD i 0 ∧ u.2.getD i 0 < (n : Int) := fun i hi => ⟨(hu.pv i hi).1, hq i hi⟩
    have hx := solve_yes hn hu hq
    -- v is a combination of the rows, so of the reduced ones
    have hz : ∀ j, j < m → w.1.getD j 0 = 0 := by
      obtain ⟨y, hy⟩ := h.fw fun k => (slX n u.1 u.2 u.2.length).getD k 0
      rw [hE] at hy
      have hvy : ∀ j, j < m → cg p (v.getD j 0) (sm n fun i => y i * at2 s.1 i j) := fun j hj => by
        refine (hx j hj).symm.trans ((cg.of_eq ?_).trans (hy j))
        exact sm_congr fun k hk => by rw [extE_lo (hM k hk) (by omega) hj]
      have hyi : ∀ i, i < n → cg p (v.getD (s.2.getD i 0).toNat 0) (y i) := fun i hi => by
        have q := h.pv i (by omega)
        have q2 := hps i hi
        refine (hvy _ (by omega)).trans (cg.of_eq ?_)
        rw [sm_pick (r := i) hi (fun k hk hne => by rw [h.zer i k (by omega) hne, Int.mul_zero]), h.one i (by omega), Int.mul_one]
      intro j hj
      refine cg.eq ?_ (hC.r1 j) ⟨by omega, by omega⟩
      have h1 := (hvy j hj).sub (sm_cg (f := fun i => v.getD (s.2.getD i 0).toNat 0 * at2 s.1 i j) (g := fun i => y i * at2 s.1 i j) fun i hi => (hyi i hi).mulR _)
      rw [Int.sub_self] at h1
      exact (hC.c1 j hj).trans h1
    refine ⟨hz, ext_getD (d := 0) (by rw [hC.l2, slX_len]) fun k hk => ?_⟩
    rw [hC.l2] at hk
    have hfree := rows_free hn hM h hf hps (x := fun k => w.2.getD k 0 - (slX n u.1 u.2 u.2.length).getD k 0) (fun j hj => by
      have h1 := (sol hz j hj).sub (hx j hj)
      rw [Int.sub_self] at h1
      refine (cg.of_eq ?_).trans h1
      rw [Int.sub_eq_add_neg, ← Int.neg_one_mul (sm n _), ← sm_mulL, ← sm_add]
      exact sm_congr fun k _ => by rw [Int.sub_mul, Int.neg_one_mul, Int.sub_eq_add_neg]) k hk
    have h2 := hfree.add (cg.refl ((slX n u.1 u.2 u.2.length).getD k 0))
    rw [Int.sub_add_cancel, Int.zero_add] at h2
    exact cg.eq h2 (hC.r2 k) (slX_rg hp hu.rg hq2 hu.inc k)
  refine ⟨⟨fun h0 => ?_, fun hq => (back hq).1⟩, fun hq => (back hq).2⟩
  refine fun i hi => Classical.byContradiction fun hc => solve_no hp hn hu hi hc (fun k => w.2.getD k 0) (sol h0)
end
end Go.Proofs.Ytbmnnbglipkidaa
