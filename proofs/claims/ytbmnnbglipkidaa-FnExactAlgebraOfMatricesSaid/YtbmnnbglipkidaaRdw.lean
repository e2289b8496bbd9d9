/-
  A reduction of rows, step by step: the rows in one list, told place by place; what each step keeps. No program is spoken of.
-/
import Derived.Test.YtbmnnbglipkidaaZ07
namespace Go.Proofs.Ytbmnnbglipkidaa
set_option linter.unusedVariables false
set_option linter.unusedSimpArgs false
set_option linter.unusedVariables false
set_option linter.unusedSimpArgs false
def FI (d : List Int) (n C : Nat) (f : Nat → Nat → Int) : Prop := d.length = n * C ∧ ∀ i j, i < n → j < C → d.getD (i * C + j) 0 = f i j
section
variable {d : List Int} {n C i j k r c : Nat} {f g : Nat → Nat → Int} {L M A E : List (List Int)} {p a b x y : Int} {iv : Int → Int} {ps : List Int} {s : List (List Int) × List Int}
theorem rc_lt (hi : i < n) (hj : j < C) : i * C + j < n * C := by
  have h : (i + 1) * C ≤ n * C := Nat.mul_le_mul_right _ hi
  rw [Nat.add_mul, Nat.one_mul] at h
  omega
theorem rc_inj {i' j' : Nat} (hj : j < C) (hj' : j' < C) (h : i * C + j = i' * C + j') : i = i' ∧ j = j' := by
  have h1 : (i * C + j) / C = i := by rw [Nat.mul_comm, Nat.mul_add_div (by omega), Nat.div_eq_of_lt hj, Nat.add_zero]
  have h2 : (i' * C + j') / C = i' := by rw [Nat.mul_comm, Nat.mul_add_div (by omega), Nat.div_eq_of_lt hj', Nat.add_zero]
  have e : i = i' := by rw [← h1, h, h2]
  subst e
  exact ⟨rfl, by omega⟩
theorem FI.set (h : FI d n C f) (hi : i < n) (hj : j < C) (a : Int) : FI (d.set (i * C + j) a) n C fun i' j' => if i' = i ∧ j' = j then a else f i' j' := by
  refine ⟨by rw [List.length_set]; exact h.1, fun i' j' hi' hj' => ?_⟩
  rw [getD_set2 (by rw [h.1]; exact rc_lt hi hj)]
  show _ = if i' = i ∧ j' = j then a else f i' j'
  by_cases e : i' * C + j' = i * C + j
  · rw [if_pos e, if_pos (rc_inj hj' hj e)]
  · rw [if_neg e, if_neg (fun q => e (by rw [q.1, q.2])), h.2 i' j' hi' hj']
theorem FI.congr (h : FI d n C f) (hf : ∀ i j, i < n → j < C → f i j = g i j) : FI d n C g := ⟨h.1, fun i j hi hj => (h.2 i j hi hj).trans (hf i j hi hj)⟩
theorem FI.of_flat (hL : L.length = n) (hC : ∀ x, x ∈ L → x.length = C) : FI L.flatten n C (at2 L) := ⟨by rw [flat_lenC L hC, hL], fun i j hi hj => flat_at L hC i j hj⟩
theorem FI.flat (h : FI d n C (at2 L)) (hL : L.length = n) (hC : ∀ x, x ∈ L → x.length = C) : d = L.flatten := by
  refine ext_getD (d := 0) (by rw [h.1, flat_lenC L hC, hL]) fun q hq => ?_
  rw [h.1] at hq
  have hC0 : 0 < C := by
    rcases Nat.eq_zero_or_pos C with e | e
    · subst e; simp at hq
    · exact e
  have e : q / C * C + q % C = q := by rw [Nat.mul_comm]; exact Nat.div_add_mod q C
  have hj : q % C < C := Nat.mod_lt _ hC0
  have hi : q / C < n := (Nat.div_lt_iff_lt_mul hC0).2 hq
  rw [← e, h.2 _ _ hi hj, flat_at L hC _ _ hj]
theorem FI.zero : FI (List.replicate (n * C) 0) n C fun _ _ => 0 := ⟨by simp, fun i j hi hj => by simp [List.getD, List.getElem?_replicate]; split <;> rfl⟩
structure RwI (p : Int) (n C : Nat) (A : List (List Int)) : Prop where
  len : A.length = n
  rows : ∀ i, i < n → (A.getD i []).length = C
  rg : ∀ i j, 0 ≤ at2 A i j ∧ at2 A i j < p
theorem RwI.mem (h : RwI p n C A) : ∀ x, x ∈ A → x.length = C := fun x hx => by
  obtain ⟨i, hi, rfl⟩ := List.getElem_of_mem hx
  have h1 := h.rows i (by rw [← h.len]; exact hi)
  simpa [List.getD, hi] using h1
theorem RwI.fi (h : RwI p n C A) : FI A.flatten n C (at2 A) := FI.of_flat h.len h.mem
theorem RwI.sw (h : RwI p n C A) (hr : r < n) (hk : k < n) : RwI p n C (swR A r k) := by
  have hl := h.len
  refine ⟨swR_len.trans hl, fun i hi => ?_, fun i j => ?_⟩
  · rw [swR_get (by omega) (by omega)]
    split
    · exact h.rows k hk
    · split
      · exact h.rows r hr
      · exact h.rows i hi
  · unfold at2
    rw [swR_get (by omega) (by omega)]
    split
    · exact h.rg k j
    · split
      · exact h.rg r j
      · exact h.rg i j
theorem RwI.sc (hp : 0 < p) (h : RwI p n C A) (hr : r < n) : RwI p n C (scA p iv r c A) := by
  have hl := h.len
  refine ⟨scA_len.trans hl, fun i hi => ?_, fun i j => ?_⟩
  · rw [scA_get (by omega)]
    split
    · rw [scR, List.length_map]; exact h.rows r hr
    · exact h.rows i hi
  · unfold at2
    rw [scA_get (by omega)]
    split
    · rw [scR_at]; exact ⟨Int.emod_nonneg _ (by omega), Int.emod_lt_of_pos _ hp⟩
    · exact h.rg i j
theorem elR_len {x' y' : List Int} : (elR p b x' y').length = x'.length := by simp [elR]
theorem RwI.els (hp : 0 < p) (h : RwI p n C A) (hi : i < n) (hr : r < n) : RwI p n C (elS p r c A i) := by
  have hl := h.len
  refine ⟨elS_len.trans hl, fun q hq => ?_, fun q j => ?_⟩
  · rw [elS_get (by omega)]
    split
    · rw [elR_len]; exact h.rows i hi
    · exact h.rows q hq
  · unfold at2
    rw [elS_get (by omega)]
    split
    · rw [elR_at (by rw [h.rows i hi, h.rows r hr])]; exact ⟨Int.emod_nonneg _ (by omega), Int.emod_lt_of_pos _ hp⟩
    · exact h.rg q j
theorem RwI.elf (hp : 0 < p) (h : RwI p n C A) (hr : r < n) : ∀ m, m ≤ n → RwI p n C ((List.range m).foldl (elS p r c) A)
  | 0, _ => h
  | m + 1, hm => by
    rw [List.range_succ, List.foldl_append]
    exact (RwI.elf hp h hr m (by omega)).els hp (by omega) hr
def swF (M : List (List Int)) (r k j : Nat) (i q : Nat) : Int := if q < j then at2 (swR M r k) i q else at2 M i q
theorem FI.swap (h : FI d n C (swF M r k j)) (hM : M.length = n) (hr : r < n) (hk : k < n) (hj : j < C) : FI ((d.set (r * C + j) (d.getD (k * C + j) 0)).set (k * C + j) (d.getD (r * C + j) 0)) n C (swF M r k (j + 1)) := by
  have e1 : d.getD (k * C + j) 0 = at2 M k j := by rw [h.2 k j hk hj, swF, if_neg (by omega)]
  have e2 : d.getD (r * C + j) 0 = at2 M r j := by rw [h.2 r j hr hj, swF, if_neg (by omega)]
  rw [e1, e2]
  refine ((h.set hr hj _).set hk hj _).congr fun i q hi hq => ?_
  have hs : at2 (swR M r k) i q = if i = r then at2 M k q else if i = k then at2 M r q else at2 M i q := by
    unfold at2
    rw [swR_get (by omega) (by omega)]
    split
    · rfl
    · split <;> rfl
  simp only [swF, hs]
  by_cases hqj : q = j
  · subst hqj
    rw [if_pos (show q < q + 1 by omega), if_neg (show ¬ q < q by omega)]
    by_cases h1 : i = k
    · subst h1
      rw [if_pos ⟨rfl, rfl⟩]
      by_cases h2 : i = r
      · subst h2; rw [if_pos rfl]
      · rw [if_neg h2, if_pos rfl]
    · rw [if_neg (fun e => h1 e.1)]
      by_cases h2 : i = r
      · rw [if_pos ⟨h2, rfl⟩, if_pos h2]
      · rw [if_neg (fun e => h2 e.1), if_neg h2, if_neg h1]
  · rw [if_neg (fun e => hqj e.2), if_neg (fun e => hqj e.2)]
    by_cases h3 : q < j
    · rw [if_pos h3, if_pos (show q < j + 1 by omega)]
    · rw [if_neg h3, if_neg (show ¬ q < j + 1 by omega)]
theorem FI.swap0 (h : FI d n C (at2 M)) : FI d n C (swF M r k 0) := h.congr fun i q _ _ => by rw [swF, if_neg (by omega)]
theorem FI.swapE (h : FI d n C (swF M r k j)) (hj : C ≤ j) : FI d n C (at2 (swR M r k)) := h.congr fun i q _ hq => by rw [swF, if_pos (by omega)]
def scF (p b : Int) (A : List (List Int)) (r j : Nat) (i q : Nat) : Int := if i = r ∧ q < j then at2 A i q * b % p else at2 A i q
theorem FI.sc (h : FI d n C (scF p b A r j)) (hr : r < n) (hj : j < C) : FI (d.set (r * C + j) (d.getD (r * C + j) 0 * b % p)) n C (scF p b A r (j + 1)) := by
  have e1 : d.getD (r * C + j) 0 = at2 A r j := by rw [h.2 r j hr hj, scF, if_neg (by omega)]
  rw [e1]
  refine (h.set hr hj _).congr fun i q hi hq => ?_
  simp only [scF]
  by_cases h1 : i = r
  · subst h1
    by_cases h2 : q = j
    · subst h2; rw [if_pos ⟨rfl, rfl⟩, if_pos ⟨rfl, by omega⟩]
    · rw [if_neg (fun e => h2 e.2)]
      by_cases h3 : q < j
      · rw [if_pos ⟨rfl, h3⟩, if_pos ⟨rfl, by omega⟩]
      · rw [if_neg (fun e => h3 e.2), if_neg (by omega)]
  · rw [if_neg (fun e => h1 e.1), if_neg (fun e => h1 e.1), if_neg (fun e => h1 e.1)]
theorem FI.sc0 (h : FI d n C (at2 A)) : FI d n C (scF p b A r 0) := h.congr fun i q _ _ => by rw [scF, if_neg (by omega)]
theorem FI.scE (h : FI d n C (scF p (iv (at2 A r c)) A r j)) (hj : C ≤ j) (hA : A.length = n) (hr : r < n) : FI d n C (at2 (scA p iv r c A)) := h.congr fun i q _ hq => by
  have e : at2 (scA p iv r c A) i q = if i = r then at2 A r q * iv (at2 A r c) % p else at2 A i q := by
    have h2 := scA_get (p := p) (iv := iv) (c := c) (show r < A.length by omega) i
    unfold at2 at h2 ⊢
    rw [h2]
    split
    · rw [scR_at]
    · rfl
  rw [e, scF]
  by_cases h1 : i = r
  · subst h1; rw [if_pos ⟨rfl, by omega⟩, if_pos rfl]
  · rw [if_neg (fun e => h1 e.1), if_neg h1]
def elF (p b : Int) (A : List (List Int)) (r i j : Nat) (i' q : Nat) : Int := if i' = i ∧ q < j then (at2 A i q - b * at2 A r q) % p else at2 A i' q
theorem FI.el (h : FI d n C (elF p b A r i j)) (hi : i < n) (hr : r < n) (hne : i ≠ r) (hj : j < C) : FI (d.set (i * C + j) ((d.getD (i * C + j) 0 - b * d.getD (r * C + j) 0) % p)) n C (elF p b A r i (j + 1)) := by
  have e1 : d.getD (i * C + j) 0 = at2 A i j := by rw [h.2 i j hi hj, elF, if_neg (by omega)]
  have e2 : d.getD (r * C + j) 0 = at2 A r j := by rw [h.2 r j hr hj, elF, if_neg (by omega)]
  rw [e1, e2]
  refine (h.set hi hj _).congr fun i' q hi' hq => ?_
  simp only [elF]
  by_cases h1 : i' = i
  · subst h1
    by_cases h2 : q = j
    · subst h2; rw [if_pos ⟨rfl, rfl⟩, if_pos ⟨rfl, by omega⟩]
    · rw [if_neg (fun e => h2 e.2)]
      by_cases h3 : q < j
      · rw [if_pos ⟨rfl, h3⟩, if_pos ⟨rfl, by omega⟩]
      · rw [if_neg (fun e => h3 e.2), if_neg (by omega)]
  · rw [if_neg (fun e => h1 e.1), if_neg (fun e => h1 e.1), if_neg (fun e => h1 e.1)]
theorem FI.el0 (h : FI d n C (at2 A)) : FI d n C (elF p b A r i 0) := h.congr fun i' q _ _ => by rw [elF, if_neg (by omega)]
theorem FI.elE (h : FI d n C (elF p (at2 A i c) A r i j)) (hA : RwI p n C A) (hi : i < n) (hr : r < n) (h0 : j = 0 ∨ (i ≠ r ∧ at2 A i c ≠ 0)) (hj : C ≤ j ∨ i = r ∨ at2 A i c = 0) : FI d n C (at2 (elS p r c A i)) := h.congr fun i' q _ hq => by
  have e : at2 (elS p r c A i) i' q = if i' = i ∧ i ≠ r ∧ at2 A i c ≠ 0 then (at2 A i q - at2 A i c * at2 A r q) % p else at2 A i' q := by
    have h2 := elS_get (p := p) (r := r) (c := c) (show i < A.length by rw [hA.len]; exact hi) i'
    have h3 : at2 (elS p r c A i) i' q = ((elS p r c A i).getD i' []).getD q 0 := rfl
    rw [h3, h2]
    split
    · rw [elR_at (by rw [hA.rows i hi, hA.rows r hr])]; rfl
    · rfl
  rw [e, elF]
  by_cases h1 : i' = i
  · subst h1
    by_cases h2 : i' ≠ r ∧ at2 A i' c ≠ 0
    · rw [if_pos (show i' = i' ∧ i' ≠ r ∧ at2 A i' c ≠ 0 from ⟨rfl, h2⟩)]
      rcases hj with hj | hj
      · rw [if_pos (show i' = i' ∧ q < j from ⟨rfl, by omega⟩)]
      · exact absurd hj (fun q => q.elim h2.1 h2.2)
    · rw [if_neg (show ¬ (i' = i' ∧ i' ≠ r ∧ at2 A i' c ≠ 0) from fun e => h2 e.2), if_neg (show ¬ (i' = i' ∧ q < j) from fun e => by have := h0.resolve_right h2; omega)]
  · rw [if_neg (fun e => h1 e.1), if_neg (fun e => h1 e.1)]
theorem rdC_go {s : List (List Int) × List Int} (hk : rdK s.1 c s.2.length = k) (hkn : k < s.1.length) : rdC p iv s c = ((List.range s.1.length).foldl (elS p s.2.length c) (scA p iv s.2.length c (swR s.1 s.2.length k)), s.2 ++ [(c : Int)]) := by
  rw [rdC, hk, if_pos hkn, elA]
  have e : (scA p iv s.2.length c (swR s.1 s.2.length k)).length = s.1.length := by rw [scA_len, swR_len]
  rw [e]
theorem rdC_no {s : List (List Int) × List Int} (hk : rdK s.1 c s.2.length = k) (hkn : s.1.length ≤ k) : rdC p iv s c = s := by
  rw [rdC, hk, if_neg (by omega)]
theorem rd_next {s : List (List Int) × List Int} (hs : s = (List.range c).foldl (rdC p iv) (E, [])) : rdC p iv s c = (List.range (c + 1)).foldl (rdC p iv) (E, []) := by
  rw [List.range_succ, List.foldl_append, ← hs]
  rfl
theorem rd_stop {s : List (List Int) × List Int} (hs : s = (List.range c).foldl (rdC p iv) (E, [])) (hc : c ≤ C) (hf : c = C ∨ s.2.length = E.length) : s = rdA p iv C E := by
  rcases hf with hf | hf
  · rw [rdA, ← hf]; exact hs
  · have h := (rd_late (p := p) (iv := iv) E c (C - c)).2 (by rw [← hs]; exact hf)
    rw [show c + (C - c) = C by omega] at h
    rw [rdA, h]
    exact hs
theorem RdI.rw (h : RdI p C E c s) (hn : E.length = n) : RwI p n C s.1 := ⟨h.len.trans hn, fun i hi => h.rows i (by omega), h.rg⟩
theorem rdK_hit (hr : r ≤ M.length) (h : ∀ i, r ≤ i → i < k → at2 M i c = 0) (hk : r ≤ k ∧ k ≤ M.length) (he : k = M.length ∨ at2 M k c ≠ 0) : rdK M c r = k := rdK_at hr h hk he
def elK (p : Int) (r c : Nat) (A : List (List Int)) (i : Nat) : List (List Int) := (List.range i).foldl (elS p r c) A
theorem elK_next : elK p r c A (i + 1) = elS p r c (elK p r c A i) i := by
  rw [elK, List.range_succ, List.foldl_append]
  rfl
theorem RwI.elk (hp : 0 < p) (h : RwI p n C A) (hr : r < n) (hi : i ≤ n) : RwI p n C (elK p r c A i) := RwI.elf hp h hr i hi
theorem z_next (hz : ∀ i, r ≤ i → i < k → at2 M i c = 0) (h0 : at2 M k c = 0) : ∀ i, r ≤ i → i < k + 1 → at2 M i c = 0 := fun i h1 h2 => by
  by_cases e : i = k
  · rw [e]; exact h0
  · exact hz i h1 (by omega)
theorem rd_go {A1 B : List (List Int)} (hs : (M, ps) = (List.range c).foldl (rdC p iv) (E, [])) (hK : rdK M c ps.length = k) (hr : r = ps.length) (hkn : k < n) (hM : M.length = n) (hA1 : A1 = scA p iv r c (swR M r k)) (hB : B = elK p r c A1 i) (hi : i = n) : (B, ps ++ [(c : Int)]) = (List.range (c + 1)).foldl (rdC p iv) (E, []) := by
  subst hr
  rw [← rd_next hs, rdC_go (s := (M, ps)) hK (show k < M.length by omega), hB, hA1, hi, ← hM]
  rfl
theorem rd_skip (hs : (M, ps) = (List.range c).foldl (rdC p iv) (E, [])) (hK : rdK M c ps.length = k) (hr : r = ps.length) (hkn : M.length ≤ k) : (M, ps) = (List.range (c + 1)).foldl (rdC p iv) (E, []) := by
  subst hr
  rw [← rd_next hs, rdC_no (s := (M, ps)) hK hkn]
theorem ixF {mc B : Int} (hmc : mc = (C : Int)) (hi : i < n) (hj : j < C) (hb : ((n * C : Nat) : Int) ≤ B) : ∃ q : Nat, q = i * C + j ∧ (i : Int) * mc + (j : Int) = (q : Int) ∧ 0 ≤ (i : Int) * mc ∧ (i : Int) * mc ≤ B ∧ q < n * C := by
  have h1 := rc_lt hi hj
  have h2 : (i : Int) * mc = ((i * C : Nat) : Int) := by rw [hmc]; exact (Int.natCast_mul ..).symm
  have h3 : i * C ≤ n * C := by omega
  refine ⟨_, rfl, ?_, ?_, ?_, h1⟩
  · rw [h2]; exact (Int.natCast_add ..).symm
  · rw [h2]; exact Int.natCast_nonneg _
  · rw [h2]; exact Int.le_trans (Int.ofNat_le.2 h3) hb
theorem sw_pv (hr : r < M.length) (hk : k < M.length) : at2 (swR M r k) r c = at2 M k c := by
  unfold at2
  rw [swR_get hr hk, if_pos rfl]
theorem FI.at_sc (h : FI d n C (scF p b A r j)) (hr : r < n) (hj : j < C) : d.getD (r * C + j) 0 = at2 A r j := by rw [h.2 r j hr hj, scF, if_neg (by omega)]
end
end Go.Proofs.Ytbmnnbglipkidaa
