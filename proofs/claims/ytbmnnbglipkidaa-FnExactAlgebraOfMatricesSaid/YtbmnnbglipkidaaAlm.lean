/-
  The table of an algebra of matrices: both ways to the coordinates of the brackets tell the same. No program is spoken of.
-/
import Derived.Test.YtbmnnbglipkidaaRdw
import Derived.Test.YtbmnnbglipkidaaEuc
namespace Go.Proofs.Ytbmnnbglipkidaa
set_option linter.unusedVariables false
set_option linter.unusedSimpArgs false
set_option linter.unusedVariables false
set_option linter.unusedSimpArgs false
def ivp (p : Int) (x : Int) : Int := ivO x p
def redE (p : Int) (m : Nat) (M : List (List Int)) : List (List Int) × List Int := rdA p (ivp p) (m + M.length) (extE M)
def red0 (p : Int) (m : Nat) (M : List (List Int)) : List (List Int) × List Int := rdA p (ivp p) m M
def red1 (p : Int) (m : Nat) (M : List (List Int)) (v : List Int) : List (List Int) × List Int := rdA p (ivp p) (M.length + 1) (augF M m v)
def slB (p : Int) (m : Nat) (M : List (List Int)) (v : List Int) : Bool := solB M.length (red1 p m M v).2
def slV (p : Int) (m : Nat) (M : List (List Int)) (v : List Int) : List Int := slX M.length (red1 p m M v).1 (red1 p m M v).2 (red1 p m M v).2.length
def cdV (p : Int) (m : Nat) (M : List (List Int)) (v : List Int) : List Int × List Int := cdA p m M.length (redE p m M).1 (red0 p m M).2 v (red0 p m M).2.length
def frB (p : Int) (m : Nat) (M : List (List Int)) : Bool := decide (M.length ≤ (red0 p m M).2.length)
section
variable {p : Int} {m n : Nat} {M : List (List Int)} {v w : List Int}
theorem ivp_ok (hp : primeB p = true) : ∀ x, 0 < x → x < p → x * ivp p x % p = 1 := fun x h1 h2 => (inv_all hp h1 h2).2.2.2
theorem eL_at (n i k : Nat) : (eL n i).getD k 0 = 0 ∨ (eL n i).getD k 0 = 1 := by
  unfold eL
  by_cases hi : i < n
  · rw [getD_set2 (by simpa using hi)]
    split
    · exact .inr rfl
    · left; simp [List.getD, List.getElem?_replicate]; split <;> rfl
  · left
    rw [List.set_eq_of_length_le (by simp; omega)]
    simp [List.getD, List.getElem?_replicate]; split <;> rfl
theorem eL_len (n i : Nat) : (eL n i).length = n := by simp [eL]
theorem extE_I (hp : primeB p = true) (h : RwI p n m M) : RwI p n (m + n) (extE M) := by
  have hp2 := primeB_range hp
  have hl := h.len
  refine ⟨extE_len.trans hl, fun i hi => ?_, fun i j => ?_⟩
  · rw [extE_get (by omega), List.length_append, h.rows i hi, eL_len, hl]
  · by_cases hi : i < n
    · unfold at2
      rw [extE_get (by omega)]
      by_cases hj : j < m
      · have := h.rg i j
        unfold at2 at this
        simp only [List.getD] at this ⊢
        have hr := h.rows i hi
        simp only [List.getD] at hr
        rw [List.getElem?_append_left (by omega)]
        exact this
      · have hr := h.rows i hi
        have he := eL_at M.length i (j - m)
        simp only [List.getD] at hr he ⊢
        rw [List.getElem?_append_right (by omega), hr]
        omega
    · rw [at2_out (by rw [extE_len]; omega)]
      omega
theorem redE_I (hp : primeB p = true) (h : RwI p n m M) : RdI p (m + n) (extE M) (m + n) (redE p m M) := by
  have hp2 := primeB_range hp
  have hE := extE_I hp h
  have hl := h.len
  have h1 := RdI.all (C := m + n) (E := extE M) hp2.1 (ivp_ok hp) (fun i hi => hE.rows i (by rw [extE_len] at hi; omega)) hE.rg (m + n) (Nat.le_refl _)
  rw [redE, hl]
  exact h1
theorem red0_I (hp : primeB p = true) (h : RwI p n m M) : RdI p m M m (red0 p m M) := by
  have hp2 := primeB_range hp
  exact RdI.all (C := m) (E := M) hp2.1 (ivp_ok hp) (fun i hi => h.rows i (by rw [← h.len]; exact hi)) h.rg m (Nat.le_refl _)
theorem aug_I (hp : primeB p = true) (h : RwI p n m M) (hvr : ∀ j, 0 ≤ v.getD j 0 ∧ v.getD j 0 < p) : RwI p m (n + 1) (augF M m v) := by
  have hp2 := primeB_range hp
  have hl := h.len
  refine ⟨augF_len, fun i hi => by rw [augF_row hi, hl], fun i j => ?_⟩
  by_cases hi : i < m
  · by_cases hj : j < n
    · rw [augF_lo hi (by omega)]
      exact h.rg j i
    · by_cases hj2 : j = n
      · rw [hj2, ← hl, augF_hi hi]
        exact hvr i
      · unfold at2
        have hr := augF_row (M := M) (v := v) hi
        rw [List.getD, List.getD, List.getElem?_eq_none (by simp only [List.getD] at hr; omega)]
        simp; omega
  · rw [at2_out (by rw [augF_len]; omega)]
    omega
theorem red1_I (hp : primeB p = true) (h : RwI p n m M) (hvr : ∀ j, 0 ≤ v.getD j 0 ∧ v.getD j 0 < p) : RdI p (n + 1) (augF M m v) (n + 1) (red1 p m M v) := by
  have hp2 := primeB_range hp
  have hA := aug_I hp h hvr
  have h1 := RdI.all (C := n + 1) (E := augF M m v) hp2.1 (ivp_ok hp) (fun i hi => hA.rows i (by rw [augF_len] at hi; exact hi)) hA.rg (n + 1) (Nat.le_refl _)
  rw [red1, h.len]
  exact h1
theorem cut_ext (h : RwI p n m M) : cut m (extE M) = M := by
  have hl := h.len
  refine ext_getD (d := []) (by rw [cut_len, extE_len]) fun i hi => ?_
  rw [cut_len, extE_len] at hi
  rw [cut_get, extE_get hi, List.take_append_of_le_length (by rw [h.rows i (by omega)]; exact Nat.le_refl _), List.take_of_length_le (by rw [h.rows i (by omega)]; exact Nat.le_refl _)]
theorem red_kept (hp : primeB p = true) (h : RwI p n m M) : ∃ qs : List Int, (redE p m M).2 = (red0 p m M).2 ++ qs ∧ (∀ q ∈ qs, (m : Int) ≤ q) ∧ (redE p m M).2.filter (fun q => decide (q < (m : Int))) = (red0 p m M).2 := by
  obtain ⟨⟨qs, h1, h2⟩, _⟩ := rd_late (p := p) (iv := ivp p) (extE M) m M.length
  have h3 := congrArg Prod.snd (cut_rd (p := p) (iv := ivp p) (L := extE M) m (Nat.le_refl _))
  rw [cut_ext h] at h3
  have h4 : (red0 p m M).2 = ((List.range m).foldl (rdC p (ivp p)) (extE M, [])).2 := h3
  have h5 : (redE p m M).2 = (red0 p m M).2 ++ qs := by rw [h4]; exact h1
  refine ⟨qs, h5, h2, ?_⟩
  rw [h5, List.filter_append, List.filter_eq_self.2 fun q hq => ?_, List.filter_eq_nil_iff.2 fun q hq => ?_, List.append_nil]
  · have := h2 q hq
    simp; omega
  · obtain ⟨i, hi, rfl⟩ := List.getElem_of_mem hq
    have := ((red0_I hp h).pv i hi).2
    simpa [List.getD, hi] using this
theorem fr_len (hp : primeB p = true) (h : RwI p n m M) : (red0 p m M).2.length ≤ n := by
  have := (red0_I hp h).few
  rw [h.len] at this
  exact this
theorem fr_E (hp : primeB p = true) (h : RwI p n m M) (hf : frB p m M = true) : (redE p m M).2 = (red0 p m M).2 ∧ (red0 p m M).2.length = n := by
  have h1 := of_decide_eq_true hf
  have h2 := fr_len hp h
  have h3 := (redE_I hp h).few
  rw [extE_len] at h3
  obtain ⟨qs, h4, _, _⟩ := red_kept hp h
  rw [h.len] at h1 h3
  have h5 : qs = [] := List.eq_nil_of_length_eq_zero (by rw [h4, List.length_append] at h3; omega)
  rw [h4, h5, List.append_nil]
  exact ⟨rfl, by omega⟩
theorem zeroB_iff {x : List Int} : zeroB x = true ↔ ∀ j, j < x.length → x.getD j 0 = 0 := by
  simp only [zeroB, List.all_eq_true, beq_iff_eq]
  refine ⟨fun h j hj => ?_, fun h y hy => ?_⟩
  · have : x.getD j 0 = x[j] := by simp [List.getD, hj]
    rw [this]
    exact h _ (List.getElem_mem hj)
  · obtain ⟨j, hj, rfl⟩ := List.getElem_of_mem hy
    have := h j hj
    simpa [List.getD, hj] using this
structure CoR (p : Int) (m n : Nat) (s : List Int × List Int) : Prop where
  l1 : s.1.length = m
  l2 : s.2.length = n
  r1 : ∀ j, 0 ≤ s.1.getD j 0 ∧ s.1.getD j 0 < p
  r2 : ∀ j, 0 ≤ s.2.getD j 0 ∧ s.2.getD j 0 < p
theorem adR_rg (hp : 0 < p) {f : Int} {x y : List Int} (h : x.length = y.length) (j : Nat) : 0 ≤ (adR p f x y).getD j 0 ∧ (adR p f x y).getD j 0 < p := by
  rw [adR_at h]
  exact ⟨Int.emod_nonneg _ (by omega), Int.emod_lt_of_pos _ hp⟩
theorem adR_len {f : Int} {x y : List Int} : (adR p f x y).length = x.length := by simp [adR]
theorem CoR.step (hp : 0 < p) {L : List (List Int)} {ps : List Int} {i : Nat} {s : List Int × List Int} (hL : (L.getD i []).length = m + n) (h : CoR p m n s) : CoR p m n (cdS p m L ps s i) := by
  unfold cdS
  split
  · exact h
  · have e1 : s.1.length = ((L.getD i []).take m).length := by rw [h.l1, List.length_take, hL]; omega
    have e2 : s.2.length = ((L.getD i []).drop m).length := by rw [h.l2, List.length_drop, hL]; omega
    exact ⟨adR_len.trans h.l1, adR_len.trans h.l2, adR_rg hp e1, adR_rg hp e2⟩
theorem CoR.all (hp : 2 ≤ p) {L : List (List Int)} {ps : List Int} (hv : v.length = m) (hvr : ∀ j, 0 ≤ v.getD j 0 ∧ v.getD j 0 < p) : ∀ t, (∀ i, i < t → (L.getD i []).length = m + n) → CoR p m n (cdA p m n L ps v t)
  | 0, _ => ⟨hv, by simp [cdA], hvr, fun j => by simp [cdA, List.getD, List.getElem?_replicate]; split <;> simp <;> omega⟩
  | t + 1, h => by
    rw [cdA, List.range_succ, List.foldl_append]
    exact CoR.step (by omega) (h t (by omega)) (CoR.all hp hv hvr t fun i hi => h i (by omega))
theorem cdA_next {L : List (List Int)} {ps : List Int} {t : Nat} : cdA p m n L ps v (t + 1) = cdS p m L ps (cdA p m n L ps v t) t := by
  rw [cdA, List.range_succ, List.foldl_append]
  rfl
theorem cdV_R (hp : primeB p = true) (h : RwI p n m M) (hv : v.length = m) (hvr : ∀ j, 0 ≤ v.getD j 0 ∧ v.getD j 0 < p) : CoR p m n (cdV p m M v) := by
  have hp2 := primeB_range hp
  have h1 := redE_I hp h
  have h2 := fr_len hp h
  have hl := h.len
  rw [cdV, hl]
  exact CoR.all hp2.1 hv hvr _ fun i hi => h1.rows i (by rw [extE_len]; omega)
theorem cd_sol (hp : primeB p = true) (h : RwI p n m M) (hf : frB p m M = true) (hv : v.length = m) (hvr : ∀ j, 0 ≤ v.getD j 0 ∧ v.getD j 0 < p) : zeroB (cdV p m M v).1 = slB p m M v ∧ (slB p m M v = true → (cdV p m M v).2 = slV p m M v) := by
  have hp2 := primeB_range hp
  have hl := h.len
  obtain ⟨e1, e2⟩ := fr_E hp h hf
  have hps : ∀ i, i < n → (redE p m M).2.getD i 0 < (m : Int) := fun i hi => by rw [e1]; exact ((red0_I hp h).pv i (by omega)).2
  have hc := coord_same hp2.1 hl h.rows hv hvr (redE_I hp h) (by rw [e1]; exact e2) hps (red1_I hp h hvr)
  have e3 : cdV p m M v = cdA p m n (redE p m M).1 (redE p m M).2 v n := by rw [cdV, hl, e1, e2]
  have hR := cdV_R hp h hv hvr
  refine ⟨?_, fun hs => ?_⟩
  · rw [Bool.eq_iff_iff, zeroB_iff, hR.l1, e3, slB, hl, solB_iff]
    exact hc.1
  · rw [e3, slV, hl]
    exact hc.2 (solB_iff.1 (by rw [slB, hl] at hs; exact hs))
theorem sl_is (hp : primeB p = true) (h : RwI p n m M) (hvr : ∀ j, 0 ≤ v.getD j 0 ∧ v.getD j 0 < p) : slB p m M v = true ↔ ∃ x, isSol p m n M v x := by
  have h1 := sol_iff (primeB_range hp).1 h.len (red1_I hp h hvr)
  rw [slB, h.len]
  exact h1
theorem sl_rg (hp : primeB p = true) (h : RwI p n m M) (hvr : ∀ j, 0 ≤ v.getD j 0 ∧ v.getD j 0 < p) (hs : slB p m M v = true) : isSol p m n M v (fun k => (slV p m M v).getD k 0) ∧ (slV p m M v).length = n ∧ ∀ k, 0 ≤ (slV p m M v).getD k 0 ∧ (slV p m M v).getD k 0 < p := by
  have hu := red1_I hp h hvr
  have hq := solB_iff.1 (by rw [slB, h.len] at hs; exact hs : solB n (red1 p m M v).2 = true)
  rw [slV, h.len]
  exact ⟨solve_yes h.len hu hq, slX_len _ _, fun k => slX_rg (primeB_range hp).1 hu.rg (fun i hi => ⟨(hu.pv i hi).1, hq i hi⟩) hu.inc k⟩
theorem sl_uniq (hp : primeB p = true) (h : RwI p n m M) (hf : frB p m M = true) (hvr : ∀ j, 0 ≤ v.getD j 0 ∧ v.getD j 0 < p) {x : Nat → Int} (hx : isSol p m n M v x) (hr : ∀ k, k < n → 0 ≤ x k ∧ x k < p) : ∀ k, k < n → (slV p m M v).getD k 0 = x k := by
  obtain ⟨e1, e2⟩ := fr_E hp h hf
  have hps : ∀ i, i < n → (redE p m M).2.getD i 0 < (m : Int) := fun i hi => by rw [e1]; exact ((red0_I hp h).pv i (by omega)).2
  rw [slV, h.len]
  exact sol_uniq (primeB_range hp).1 h.len h.rows (redE_I hp h) (by rw [e1]; exact e2) hps (red1_I hp h hvr) hx hr
theorem sl_neg (hp : primeB p = true) (h : RwI p n m M) (hf : frB p m M = true) (hvr : ∀ j, 0 ≤ v.getD j 0 ∧ v.getD j 0 < p) (hwr : ∀ j, 0 ≤ w.getD j 0 ∧ w.getD j 0 < p) (hw : ∀ j, j < m → cg p (w.getD j 0) (-v.getD j 0)) (hs : slB p m M v = true) : slB p m M w = true ∧ ∀ k, k < n → (slV p m M w).getD k 0 = (-(slV p m M v).getD k 0) % p := by
  have hp2 := primeB_range hp
  have h1 := sl_rg hp h hvr hs
  have h2 := isSol_neg (w := w) h1.1 hw
  refine ⟨(sl_is hp h hwr).2 ⟨_, h2⟩, fun k hk => ?_⟩
  rw [sl_uniq hp h hf hwr h2 (fun k _ => ⟨Int.emod_nonneg _ (by omega), Int.emod_lt_of_pos _ (by omega)⟩) k hk, Int.sub_eq_add_neg, Int.add_emod_left]
theorem sl_zero (hp : primeB p = true) (h : RwI p n m M) (hf : frB p m M = true) (hwr : ∀ j, 0 ≤ w.getD j 0 ∧ w.getD j 0 < p) (hw : ∀ j, j < m → cg p (w.getD j 0) 0) : slB p m M w = true ∧ ∀ k, k < n → (slV p m M w).getD k 0 = 0 := by
  have hp2 := primeB_range hp
  have h2 : isSol p m n M w fun _ => 0 := isSol_zero hw
  exact ⟨(sl_is hp h hwr).2 ⟨_, h2⟩, sl_uniq hp h hf hwr h2 fun k _ => by omega⟩
end
structure TbG (p : Int) (n : Nat) (F : Nat → Nat → Nat → Int) (i j k : Nat) (d : List Int) : Prop where
  len : d.length = n * n * n
  at3 : ∀ a b c, a < n → b < n → c < n → d.getD ((a * n + b) * n + c) 0 =
    if b < a ∧ (a < i ∨ (a = i ∧ (b < j ∨ (b = j ∧ c < k)))) then F a b c
    else if a < b ∧ (b < i ∨ (b = i ∧ (a < j ∨ (a = j ∧ c < k)))) then (-F b a c) % p else 0
section
variable {p : Int} {n i j k q1 q2 : Nat} {F : Nat → Nat → Nat → Int} {d : List Int}
theorem cube_lt {a b c n : Nat} (ha : a < n) (hb : b < n) (hc : c < n) : (a * n + b) * n + c < n * n * n := rc_lt (rc_lt ha hb) hc
theorem cube_inj {a b c a' b' c' n : Nat} (hb : b < n) (hc : c < n) (hb' : b' < n) (hc' : c' < n) (h : (a * n + b) * n + c = (a' * n + b') * n + c') : a = a' ∧ b = b' ∧ c = c' := by
  obtain ⟨h1, h2⟩ := rc_inj hc hc' h
  obtain ⟨h3, h4⟩ := rc_inj hb hb' h1
  exact ⟨h3, h4, h2⟩
theorem TbG.new : TbG p n F 0 0 0 (List.replicate (n * n * n) 0) := ⟨by simp, fun a b c _ _ _ => by
  rw [if_neg (by omega), if_neg (by omega)]
  simp [List.getD, List.getElem?_replicate]; split <;> rfl⟩
theorem TbG.re {i' j' k' : Nat} (h : TbG p n F i j k d) (e : ∀ a b c, a < n → b < n → c < n → b < a → ((a < i ∨ (a = i ∧ (b < j ∨ (b = j ∧ c < k)))) ↔ (a < i' ∨ (a = i' ∧ (b < j' ∨ (b = j' ∧ c < k')))))) : TbG p n F i' j' k' d := ⟨h.len, fun a b c ha hb hc => by
  rw [h.at3 a b c ha hb hc]
  by_cases h1 : b < a
  · have h2 := e a b c ha hb hc h1
    simp only [h1, true_and, h2, show ¬ a < b by omega, false_and, if_false]
  · by_cases h3 : a < b
    · have h2 := e b a c hb ha hc h3
      simp only [h3, true_and, h2, show ¬ b < a by omega, false_and, if_false]
    · simp only [h1, h3, false_and, if_false]⟩
theorem TbG.row (h : TbG p n F i i 0 d) : TbG p n F (i + 1) 0 0 d := h.re fun a b c _ _ _ hab => by omega
theorem TbG.next (h : TbG p n F i j n d) : TbG p n F i (j + 1) 0 d := h.re fun a b c _ _ _ hab => by omega
theorem TbG.stepq (h : TbG p n F i j k d) (hi : i < n) (hj : j < i) (hk : k < n) (h1 : q1 = (i * n + j) * n + k) (h2 : q2 = (j * n + i) * n + k) {x y : Int} (hx : x = F i j k) (hy : y = (-F i j k) % p) : TbG p n F i j (k + 1) ((d.set q1 x).set q2 y) := by
  have hl := h.len
  subst h1 h2 hx hy
  refine ⟨by simp [hl], fun a b c ha hb hc => ?_⟩
  have b1 := cube_lt hi (show j < n by omega) hk
  have b2 := cube_lt (show j < n by omega) hi hk
  rw [getD_set2 (by rw [List.length_set]; omega), getD_set2 (by omega), h.at3 a b c ha hb hc]
  by_cases e1 : (a * n + b) * n + c = (j * n + i) * n + k
  · obtain ⟨rfl, rfl, rfl⟩ := cube_inj hb hc hi hk e1
    rw [if_pos rfl, if_neg (by omega), if_pos (by omega)]
  · rw [if_neg e1]
    by_cases e2 : (a * n + b) * n + c = (i * n + j) * n + k
    · obtain ⟨rfl, rfl, rfl⟩ := cube_inj hb hc (show j < n by omega) hk e2
      rw [if_pos rfl, if_pos (by omega)]
    · rw [if_neg e2]
      have n1 : ¬ (a = j ∧ b = i ∧ c = k) := fun e => e1 (by rw [e.1, e.2.1, e.2.2])
      have n2 : ¬ (a = i ∧ b = j ∧ c = k) := fun e => e2 (by rw [e.1, e.2.1, e.2.2])
      by_cases c1 : b < a
      · have : (a < i ∨ (a = i ∧ (b < j ∨ (b = j ∧ c < k)))) ↔ (a < i ∨ (a = i ∧ (b < j ∨ (b = j ∧ c < k + 1)))) := by omega
        simp only [c1, true_and, this, show ¬ a < b by omega, false_and, if_false]
      · by_cases c2 : a < b
        · have : (b < i ∨ (b = i ∧ (a < j ∨ (a = j ∧ c < k)))) ↔ (b < i ∨ (b = i ∧ (a < j ∨ (a = j ∧ c < k + 1)))) := by omega
          simp only [c2, true_and, this, show ¬ b < a by omega, false_and, if_false]
        · simp only [c1, c2, false_and, if_false]
theorem TbG.end_ (h : TbG p n F n 0 0 d) {a b c : Nat} (ha : a < n) (hb : b < n) (hc : c < n) : d.getD ((a * n + b) * n + c) 0 = if b < a then F a b c else if a < b then (-F b a c) % p else 0 := by
  rw [h.at3 a b c ha hb hc]
  by_cases c1 : b < a
  · rw [if_pos ⟨c1, .inl ha⟩, if_pos c1]
  · by_cases c2 : a < b
    · rw [if_neg (fun e => c1 e.1), if_pos ⟨c2, .inl hb⟩, if_neg c1, if_pos c2]
    · rw [if_neg (fun e => c1 e.1), if_neg (fun e => c2 e.1), if_neg c1, if_neg c2]
end
def tbD (p : Int) (m : Nat) (M B : List (List Int)) : List Int := (B.map (slV p m M)).flatten
def tbB (p : Int) (m : Nat) (M B : List (List Int)) : Bool := B.all (slB p m M)
def tfB (p : Int) (m n : Nat) (M B : List (List Int)) : Bool := (List.range n).all fun i => (List.range i).all fun j => zeroB (cdV p m M (B.getD (i * n + j) [])).1
section
variable {p : Int} {m n : Nat} {M B : List (List Int)} {d : List Int}
structure BrI (p : Int) (m n : Nat) (B : List (List Int)) : Prop where
  len : B.length = n * n
  row : ∀ i j, i < n → j < n → (B.getD (i * n + j) []).length = m
  rg : ∀ i j, i < n → j < n → ∀ k, 0 ≤ (B.getD (i * n + j) []).getD k 0 ∧ (B.getD (i * n + j) []).getD k 0 < p
  self : ∀ i, i < n → ∀ k, k < m → cg p ((B.getD (i * n + i) []).getD k 0) 0
  neg : ∀ i j, i < n → j < n → ∀ k, k < m → cg p ((B.getD (j * n + i) []).getD k 0) (-(B.getD (i * n + j) []).getD k 0)
theorem all_ij (h : BrI p m n B) (f : List Int → Bool) : B.all f = true ↔ ∀ i j, i < n → j < n → f (B.getD (i * n + j) []) = true := by
  rw [List.all_eq_true]
  refine ⟨fun h1 i j hi hj => h1 _ ?_, fun h1 x hx => ?_⟩
  · have hl := rc_lt hi hj
    rw [← h.len] at hl
    rw [List.getD, List.getElem?_eq_getElem hl]
    exact List.getElem_mem hl
  · obtain ⟨q, hq, rfl⟩ := List.getElem_of_mem hx
    have hq2 := hq
    rw [h.len] at hq2
    have hn : 0 < n := by
      rcases Nat.eq_zero_or_pos n with e | e
      · subst e; simp at hq2
      · exact e
    have e : q / n * n + q % n = q := by rw [Nat.mul_comm]; exact Nat.div_add_mod q n
    have h2 := h1 (q / n) (q % n) ((Nat.div_lt_iff_lt_mul hn).2 hq2) (Nat.mod_lt _ hn)
    rw [e] at h2
    simpa [List.getD, hq] using h2
theorem fine_eq (hp : primeB p = true) (h : RwI p n m M) (hf : frB p m M = true) (hB : BrI p m n B) : tfB p m n M B = tbB p m M B := by
  rw [Bool.eq_iff_iff, tbB, all_ij hB]
  simp only [tfB, List.all_eq_true, List.mem_range]
  have hz : ∀ i j, i < n → j < n → zeroB (cdV p m M (B.getD (i * n + j) [])).1 = slB p m M (B.getD (i * n + j) []) := fun i j hi hj => (cd_sol hp h hf (hB.row i j hi hj) (hB.rg i j hi hj)).1
  refine ⟨fun h1 i j hi hj => ?_, fun h1 i hi j hj => by rw [hz i j hi (by omega)]; exact h1 i j hi (by omega)⟩
  rcases Nat.lt_trichotomy j i with e | e | e
  · rw [← hz i j hi hj]; exact h1 i hi j e
  · subst e
    exact (sl_zero hp h hf (hB.rg j j hj hj) (hB.self j hj)).1
  · have h2 := h1 j hj i e
    rw [hz j i hj hi] at h2
    exact (sl_neg hp h hf (hB.rg j i hj hi) (hB.rg i j hi hj) (hB.neg j i hj hi) h2).1
theorem flat_n {α : Type} {f : α → List Int} {n : Nat} : ∀ {B : List α}, (∀ x ∈ B, (f x).length = n) → ∀ x, x ∈ B.map f → x.length = n := fun h x hx => by
  obtain ⟨y, hy, rfl⟩ := List.mem_map.1 hx
  exact h y hy
theorem table_eq (hp : primeB p = true) (h : RwI p n m M) (hf : frB p m M = true) (hB : BrI p m n B) (hb : tbB p m M B = true) (hd : TbG p n (fun i j k => (cdV p m M (B.getD (i * n + j) [])).2.getD k 0) n 0 0 d) : d = tbD p m M B := by
  have hall := (all_ij hB _).1 hb
  have hln : ∀ x ∈ B, (slV p m M x).length = n := fun x hx => by rw [slV, slX_len, h.len]
  have hfl := flat_n (f := slV p m M) hln
  refine FI.flat (n := n * n) (C := n) ⟨hd.len, fun q c hq hc => ?_⟩ (by rw [List.length_map, hB.len]) hfl
  have hn : 0 < n := by omega
  have e : q / n * n + q % n = q := by rw [Nat.mul_comm]; exact Nat.div_add_mod q n
  obtain ⟨a, ha⟩ : ∃ a, a = q / n := ⟨_, rfl⟩
  obtain ⟨b, hb'⟩ : ∃ b, b = q % n := ⟨_, rfl⟩
  have ha2 : a < n := by rw [ha]; exact (Nat.div_lt_iff_lt_mul hn).2 hq
  have hb2 : b < n := by rw [hb']; exact Nat.mod_lt _ hn
  rw [← ha, ← hb'] at e
  rw [← e, hd.end_ ha2 hb2 hc]
  have hat : at2 (B.map (slV p m M)) (a * n + b) c = (slV p m M (B.getD (a * n + b) [])).getD c 0 := by
    have hl := rc_lt ha2 hb2
    rw [← hB.len] at hl
    unfold at2
    congr 1
    simp [List.getD, hl]
  rw [hat]
  have hcs := fun i j (hi : i < n) (hj : j < n) => (cd_sol hp h hf (hB.row i j hi hj) (hB.rg i j hi hj)).2 (hall i j hi hj)
  rcases Nat.lt_trichotomy b a with e1 | e1 | e1
  · rw [if_pos e1, hcs a b ha2 hb2]
  · subst e1
    rw [if_neg (by omega), if_neg (by omega), (sl_zero hp h hf (hB.rg b b hb2 hb2) (hB.self b hb2)).2 c hc]
  · rw [if_neg (by omega), if_pos e1, hcs b a hb2 ha2, (sl_neg hp h hf (hB.rg b a hb2 ha2) (hB.rg a b ha2 hb2) (hB.neg b a hb2 ha2) (hall b a hb2 ha2)).2 c hc]
end
end Go.Proofs.Ytbmnnbglipkidaa
