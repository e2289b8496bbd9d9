/-
  What the reduction keeps: the combinations of the rows, the vectors that they send to 0, and the form of the columns that are done. No program is spoken of.
-/
import Derived.Test.YtbmnnbglipkidaaLiy
namespace Go.Proofs.Ytbmnnbglipkidaa
set_option linter.unusedVariables false
set_option linter.unusedSimpArgs false
set_option linter.unusedVariables false
set_option linter.unusedSimpArgs false
structure RdI (p : Int) (C : Nat) (E : List (List Int)) (c : Nat) (s : List (List Int) × List Int) : Prop where
  len : s.1.length = E.length
  rows : ∀ i, i < E.length → (s.1.getD i []).length = C
  rg : ∀ i j, 0 ≤ at2 s.1 i j ∧ at2 s.1 i j < p
  fw : fwd p E.length (at2 E) (at2 s.1)
  kr : ker p E.length C (at2 E) (at2 s.1)
  few : s.2.length ≤ E.length
  pv : ∀ i, i < s.2.length → 0 ≤ s.2.getD i 0 ∧ s.2.getD i 0 < c
  inc : ∀ i k, i < k → k < s.2.length → s.2.getD i 0 < s.2.getD k 0
  one : ∀ i, i < s.2.length → at2 s.1 i (s.2.getD i 0).toNat = 1
  zer : ∀ i k, i < s.2.length → k ≠ i → at2 s.1 k (s.2.getD i 0).toNat = 0
  lft : ∀ i, i < s.2.length → ∀ j : Nat, (j : Int) < s.2.getD i 0 → at2 s.1 i j = 0
  bot : ∀ i, s.2.length ≤ i → ∀ j, j < c → at2 s.1 i j = 0
section
variable {p : Int} {iv : Int → Int} {C c : Nat} {E : List (List Int)} {s : List (List Int) × List Int}
theorem at2_out {L : List (List Int)} {i : Nat} (h : L.length ≤ i) (j : Nat) : at2 L i j = 0 := by
  unfold at2
  simp [List.getD, h]
theorem RdI.new (hp : 2 ≤ p) (hC : ∀ i, i < E.length → (E.getD i []).length = C) (hE : ∀ i j, 0 ≤ at2 E i j ∧ at2 E i j < p) : RdI p C E 0 (E, []) :=
  ⟨rfl, hC, hE, fwd.refl, ker.refl, Nat.zero_le _, fun i h => by simp at h, fun i k _ h => by simp at h, fun i h => by simp at h, fun i k h => by simp at h, fun i h => by simp at h, fun i _ j h => by omega⟩
theorem RdI.step (hp : 2 ≤ p) (hiv : ∀ x, 0 < x → x < p → x * iv x % p = 1) (h : RdI p C E c s) (hc : c < C) : RdI p C E (c + 1) (rdC p iv s c) := by
  obtain ⟨L, ps⟩ := s
  obtain ⟨r, hr⟩ : ∃ r, r = ps.length := ⟨_, rfl⟩
  have hrn : r ≤ L.length := by rw [h.len, hr]; exact h.few
  obtain ⟨k1, k2, k3, k4⟩ := rdK_is (L := L) (c := c) hrn
  obtain ⟨k, hk⟩ : ∃ k, k = rdK L c r := ⟨_, rfl⟩
  have hbot := h.bot
  rw [← hk] at k1 k2 k3 k4
  unfold rdC
  simp only [← hr, ← hk] at hbot ⊢
  by_cases hkn : k < L.length
  · have hrl : r < L.length := by omega
    have hn := h.len
    have k4' := k4 hkn
    simp only at hn
    rw [if_pos hkn]
    obtain ⟨B1, e1⟩ : ∃ B1, B1 = swR L r k := ⟨_, rfl⟩
    obtain ⟨B2, e2⟩ : ∃ B2, B2 = scA p iv r c B1 := ⟨_, rfl⟩
    obtain ⟨B3, e3⟩ : ∃ B3, B3 = elA p r c B2 := ⟨_, rfl⟩
    rw [← e1, ← e2, ← e3]
    have l1 : B1.length = L.length := by rw [e1, swR_len]
    have l2 : B2.length = L.length := by rw [e2, scA_len, l1]
    have l3 : B3.length = L.length := by rw [e3, elA_len, l2]
    have g1 : ∀ i, B1.getD i [] = if i = r then L.getD k [] else if i = k then L.getD r [] else L.getD i [] := fun i => by rw [e1, swR_get hrl hkn]
    have g2 : ∀ i, B2.getD i [] = if i = r then scR p (iv (at2 B1 r c)) (B1.getD r []) else B1.getD i [] := fun i => by rw [e2, scA_get (by omega)]
    have g3 : ∀ i, B3.getD i [] = if i ≠ r ∧ at2 B2 i c ≠ 0 then elR p (at2 B2 i c) (B2.getD i []) (B2.getD r []) else B2.getD i [] := fun i => by rw [e3, elA_at]
    have n1 : ∀ i, i < E.length → (B1.getD i []).length = C := fun i hi => by
      rw [g1]
      split
      · exact h.rows k (by omega)
      · split
        · exact h.rows r (by omega)
        · exact h.rows i hi
    have n2 : ∀ i, i < E.length → (B2.getD i []).length = C := fun i hi => by
      rw [g2]
      split
      · rw [scR, List.length_map]; exact n1 r (by omega)
      · exact n1 i hi
    have n3 : ∀ i, i < E.length → (B3.getD i []).length = C := fun i hi => by
      rw [g3]
      split
      · rw [elR, List.length_map, List.length_range]; exact n2 i hi
      · exact n2 i hi
    have a1 : ∀ i j, at2 B1 i j = if i = r then at2 L k j else if i = k then at2 L r j else at2 L i j := fun i j => by
      unfold at2
      rw [g1]
      split
      · rfl
      · split <;> rfl
    have a2 : ∀ i j, at2 B2 i j = if i = r then at2 B1 r j * iv (at2 B1 r c) % p else at2 B1 i j := fun i j => by
      unfold at2
      rw [g2]
      split
      · rw [scR_at]; rfl
      · rfl
    have a3 : ∀ i j, at2 B3 i j = if i ≠ r ∧ at2 B2 i c ≠ 0 then (at2 B2 i j - at2 B2 i c * at2 B2 r j) % p else at2 B2 i j := fun i j => by
      by_cases hi : i < E.length
      · show (B3.getD i []).getD j 0 = _
        rw [g3]
        split
        · rw [elR_at (by rw [n2 i hi, n2 r (by omega)])]; rfl
        · rfl
      · rw [if_neg (fun q => q.2 (at2_out (by omega) c)), at2_out (by omega), at2_out (by omega)]
    have r1 : ∀ i j, 0 ≤ at2 B1 i j ∧ at2 B1 i j < p := fun i j => by
      rw [a1]
      split
      · exact h.rg k j
      · split
        · exact h.rg r j
        · exact h.rg i j
    have r2 : ∀ i j, 0 ≤ at2 B2 i j ∧ at2 B2 i j < p := fun i j => by
      rw [a2]
      split
      · exact ⟨Int.emod_nonneg _ (by omega), Int.emod_lt_of_pos _ (by omega)⟩
      · exact r1 i j
    have r3 : ∀ i j, 0 ≤ at2 B3 i j ∧ at2 B3 i j < p := fun i j => by
      rw [a3]
      split
      · exact ⟨Int.emod_nonneg _ (by omega), Int.emod_lt_of_pos _ (by omega)⟩
      · exact r2 i j
    have hx : at2 B1 r c * iv (at2 B1 r c) % p = 1 := by
      have h0 := r1 r c
      have h1 : at2 B1 r c ≠ 0 := by rw [a1, if_pos rfl]; exact k4'
      exact hiv _ (by omega) h0.2
    have c2 : at2 B2 r c = 1 := by rw [a2, if_pos rfl]; exact hx
    have hxc : cg p (at2 B1 r c * iv (at2 B1 r c)) 1 := hx ▸ (cg.emod _).symm
    -- the columns that were done
    have b1 : ∀ i j, r ≤ i → j < c → at2 B1 i j = 0 := fun i j hi hj => by
      rw [a1]
      split
      · exact hbot k k1 j hj
      · split
        · exact hbot r (Nat.le_refl _) j hj
        · exact hbot i hi j hj
    have b2 : ∀ i j, r ≤ i → j < c → at2 B2 i j = 0 := fun i j hi hj => by
      rw [a2]
      split
      · rw [b1 r j (Nat.le_refl _) hj, Int.zero_mul, Int.zero_emod]
      · exact b1 i j hi hj
    have b3 : ∀ i j, j < c → at2 B3 i j = at2 B2 i j := fun i j hj => by
      rw [a3]
      split
      · rw [b2 r j (Nat.le_refl _) hj, Int.mul_zero, Int.sub_zero]
        exact Int.emod_eq_of_lt (r2 i j).1 (r2 i j).2
      · rfl
    have up : ∀ i j, i < r → at2 B2 i j = at2 L i j := fun i j hi => by rw [a2, if_neg (by omega), a1, if_neg (by omega), if_neg (by omega)]
    have lo : ∀ i j, r ≤ i → j < c → at2 B3 i j = 0 := fun i j hi hj => (b3 i j hj).trans (b2 i j hi hj)
    have hi3 : ∀ i j, i < r → j < c → at2 B3 i j = at2 L i j := fun i j hi hj => (b3 i j hj).trans (up i j hi)
    have cc : ∀ i, at2 B3 i c = if i = r then 1 else 0 := fun i => by
      rw [a3]
      by_cases e : i = r
      · rw [if_neg (fun q => q.1 e), if_pos e, e, c2]
      · rw [if_neg e]
        split
        · rw [c2, Int.mul_one, Int.sub_self, Int.zero_emod]
        · rename_i q
          exact Classical.byContradiction fun q2 => q ⟨e, q2⟩
    have pg : ∀ i, (ps ++ [(c : Int)]).getD i 0 = if i = r then (c : Int) else ps.getD i 0 := fun i => by
      by_cases e : i = r
      · subst e
        simp [List.getD, hr]
      · by_cases e2 : i < r
        · simp [List.getD, List.getElem?_append_left (show i < ps.length by omega), e]
        · simp [List.getD, show ps.length + 1 ≤ i by omega, show ps.length ≤ i by omega, e]
    have pl : (ps ++ [(c : Int)]).length = r + 1 := by simp [hr]
    have hpv : ∀ i, i < r → 0 ≤ ps.getD i 0 ∧ ps.getD i 0 < c := fun i hi => h.pv i (by simpa [hr] using hi)
    have kf : fwd p E.length (at2 L) (at2 B3) ∧ ker p E.length C (at2 L) (at2 B3) := by
      have q1 : ∀ i, i < E.length → at2 B1 i = if i = r then at2 L k else if i = k then at2 L r else at2 L i := fun i _ => funext fun j => by
        rw [a1]
        split
        · rfl
        · split <;> rfl
      have q2 : ∀ i, i < E.length → i ≠ r → at2 B2 i = at2 B1 i := fun i _ e => funext fun j => by rw [a2, if_neg e]
      have q2r : ∀ j, cg p (at2 B2 r j) (at2 B1 r j * iv (at2 B1 r c)) := fun j => by
        rw [a2, if_pos rfl]
        exact cg.emod _
      have q3 : ∀ i, i < E.length → ∀ j, cg p (at2 B3 i j) (at2 B2 i j + (if i = r then 0 else -at2 B2 i c) * at2 B2 r j) := fun i _ j => by
        rw [a3]
        by_cases e : i = r
        · rw [if_neg (fun q => q.1 e), if_pos e, Int.zero_mul, Int.add_zero]
          exact cg.refl _
        · rw [if_neg e, Int.neg_mul, ← Int.sub_eq_add_neg]
          split
          · exact cg.emod _
          · rename_i q
            have q5 : at2 B2 i c = 0 := Classical.byContradiction fun q2 => q ⟨e, q2⟩
            rw [q5, Int.zero_mul, Int.sub_zero]
            exact cg.refl _
      exact ⟨((fwd_swap (by omega) (by omega) q1).trans (fwd_scale (by omega) hxc q2 q2r)).trans (fwd_elim (f := fun i => if i = r then 0 else -at2 B2 i c) (by omega) (if_pos rfl) q3),
        ((ker_swap (by omega) (by omega) q1).trans (ker_scale (by omega) hxc q2 q2r)).trans (ker_elim (f := fun i => if i = r then 0 else -at2 B2 i c) (by omega) (if_pos rfl) q3)⟩
    refine ⟨l3.trans hn, n3, r3, h.fw.trans kf.1, h.kr.trans kf.2, by simp only [pl]; omega, fun i hi => ?_, fun i j hij hj => ?_, fun i hi => ?_, fun i j hi hj => ?_, fun i hi j hj => ?_, fun i hi j hj => ?_⟩
    · simp only [pg]
      split
      · omega
      · have := hpv i (by rw [pl] at hi; omega)
        omega
    · simp only [pl] at hj
      simp only [pg]
      rw [if_neg (by omega)]
      split
      · exact (hpv i (by omega)).2
      · exact h.inc i j hij (by simp only; omega)
    · simp only [pl] at hi
      simp only [pg]
      split
      · rename_i e
        rw [e, Int.toNat_natCast, cc, if_pos rfl]
      · have q := hpv i (by omega)
        rw [hi3 i _ (by omega) (by omega)]
        exact h.one i (by simp only; omega)
    · simp only [pl] at hi
      simp only [pg]
      split
      · rename_i e
        rw [Int.toNat_natCast, cc, if_neg (by omega)]
      · have q := hpv i (by omega)
        by_cases e2 : j < r
        · rw [hi3 j _ e2 (by omega)]
          exact h.zer i j (by simp only; omega) hj
        · exact lo j _ (by omega) (by omega)
    · simp only [pl] at hi
      simp only [pg] at hj
      split at hj
      · rename_i e
        exact lo i j (by omega) (by omega)
      · have q := hpv i (by omega)
        rw [hi3 i _ (by omega) (by omega)]
        exact h.lft i (by simp only; omega) j hj
    · simp only [pl] at hi
      by_cases e : j = c
      · rw [e, cc, if_neg (by omega)]
      · exact lo i j (by omega) (by omega)
  · rw [if_neg hkn]
    refine ⟨h.len, h.rows, h.rg, h.fw, h.kr, h.few, fun i hi => ?_, h.inc, h.one, h.zer, h.lft, fun i hi j hj => ?_⟩
    · have := h.pv i hi
      omega
    · by_cases e : j = c
      · by_cases hi2 : i < L.length
        · rw [e]
          exact k3 i (by simp only at hi; omega) (by omega)
        · exact at2_out (by simp only; omega) j
      · exact h.bot i hi j (by omega)
theorem RdI.all (hp : 2 ≤ p) (hiv : ∀ x, 0 < x → x < p → x * iv x % p = 1) (hC : ∀ i, i < E.length → (E.getD i []).length = C) (hE : ∀ i j, 0 ≤ at2 E i j ∧ at2 E i j < p) : ∀ c, c ≤ C → RdI p C E c ((List.range c).foldl (rdC p iv) (E, []))
  | 0, _ => RdI.new hp hC hE
  | c + 1, hc => by
    rw [List.range_succ, List.foldl_append]
    exact (RdI.all hp hiv hC hE c (by omega)).step hp hiv (by omega)
end
end Go.Proofs.Ytbmnnbglipkidaa
