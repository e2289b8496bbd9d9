/-
  A matrix transposed, and a system with its right side behind it, place by place; all systems of a table. No program is spoken of.
-/
import Derived.Test.YtbmnnbglipkidaaAlb
namespace Go.Proofs.Ytbmnnbglipkidaa
set_option linter.unusedVariables false
set_option linter.unusedSimpArgs false
set_option linter.unusedVariables false
set_option linter.unusedSimpArgs false
def trF (n m : Nat) (M : List (List Int)) : List (List Int) := (List.range m).map fun i => (List.range n).map fun k => at2 M k i
def trD (n m : Nat) (M : List (List Int)) : List Int := (trF n m M).flatten
def trG (M : List (List Int)) (i j a b : Nat) : Int := if b < i ∨ (b = i ∧ a < j) then at2 M b a else 0
def agG (n : Nat) (M : List (List Int)) (x : List Int) (i j a b : Nat) : Int := if a < i ∨ (a = i ∧ b < j) then (if b < n then at2 M b a else x.getD a 0) else 0
def slR (p : Int) (m : Nat) (M : List (List Int)) (v : List Int) : List Int := if slB p m M v then slV p m M v else []
section
variable {n m i j k : Nat} {M B : List (List Int)} {d x qs : List Int} {p : Int}
theorem trF_at (hi : i < m) (hk : k < n) : at2 (trF n m M) i k = at2 M k i := by
  unfold at2
  simp [trF, List.getD, hi, hk, at2]
theorem trF_rows : ∀ y, y ∈ trF n m M → y.length = n := fun y hy => by
  obtain ⟨a, _, rfl⟩ := List.mem_map.1 hy
  simp
theorem trF_len : (trF n m M).length = m := by simp [trF]
theorem trD_fi : FI (trD n m M) m n fun i k => at2 M k i := (FI.of_flat trF_len trF_rows).congr fun i k hi hk => trF_at hi hk
theorem FI.tr0 : FI (List.replicate (m * n) 0) m n (trG M 0 0) := FI.zero.congr fun a b _ _ => by rw [trG, if_neg (by omega)]
theorem FI.trS (h : FI d m n (trG M i j)) (hi : i < n) (hj : j < m) : FI (d.set (j * n + i) (at2 M i j)) m n (trG M i (j + 1)) := (h.set hj hi _).congr fun a b ha hb => by
  simp only [trG]
  by_cases e : a = j ∧ b = i
  · rw [if_pos e, if_pos (by omega), e.1, e.2]
  · rw [if_neg e]
    by_cases e2 : b < i ∨ (b = i ∧ a < j)
    · rw [if_pos e2, if_pos (by omega)]
    · rw [if_neg e2, if_neg (by omega)]
theorem FI.trR (h : FI d m n (trG M i j)) (hj : m ≤ j) : FI d m n (trG M (i + 1) 0) := h.congr fun a b ha hb => by
  simp only [trG]
  by_cases e2 : b < i ∨ (b = i ∧ a < j)
  · rw [if_pos e2, if_pos (by omega)]
  · rw [if_neg e2, if_neg (by omega)]
theorem FI.trE (h : FI d m n (trG M i 0)) (hi : n ≤ i) : d = trD n m M := by
  refine FI.flat (n := m) (C := n) (h.congr fun a b ha hb => ?_) trF_len trF_rows
  rw [trG, if_pos (by omega), trF_at ha hb]
theorem FI.ag0 : FI (List.replicate (m * (n + 1)) 0) m (n + 1) (agG n M x 0 0) := FI.zero.congr fun a b _ _ => by rw [agG, if_neg (by omega)]
theorem FI.agS (h : FI d m (n + 1) (agG n M x i j)) (hi : i < m) (hj : j < n) : FI (d.set (i * (n + 1) + j) (at2 M j i)) m (n + 1) (agG n M x i (j + 1)) := (h.set hi (by omega) _).congr fun a b ha hb => by
  simp only [agG]
  by_cases e : a = i ∧ b = j
  · rw [if_pos e, if_pos (show a < i ∨ (a = i ∧ b < j + 1) by omega), if_pos (show b < n by omega), e.1, e.2]
  · rw [if_neg e]
    by_cases e2 : a < i ∨ (a = i ∧ b < j)
    · rw [if_pos e2, if_pos (show a < i ∨ (a = i ∧ b < j + 1) by omega)]
    · rw [if_neg e2, if_neg (show ¬ (a < i ∨ (a = i ∧ b < j + 1)) by omega)]
theorem FI.agR (h : FI d m (n + 1) (agG n M x i j)) (hi : i < m) (hj : j = n) : FI (d.set (i * (n + 1) + n) (x.getD i 0)) m (n + 1) (agG n M x (i + 1) 0) := (h.set hi (show n < n + 1 by omega) _).congr fun a b ha hb => by
  simp only [agG]
  by_cases e : a = i ∧ b = n
  · rw [if_pos e, if_pos (show a < i + 1 ∨ (a = i + 1 ∧ b < 0) by omega), if_neg (show ¬ b < n by omega), e.1]
  · rw [if_neg e]
    by_cases e2 : a < i ∨ (a = i ∧ b < j)
    · rw [if_pos e2, if_pos (show a < i + 1 ∨ (a = i + 1 ∧ b < 0) by omega)]
    · rw [if_neg e2, if_neg (show ¬ (a < i + 1 ∨ (a = i + 1 ∧ b < 0)) by omega)]
theorem FI.agE (h : FI d m (n + 1) (agG n M x i 0)) (hi : m ≤ i) (hM : M.length = n) : d = (augF M m x).flatten := by
  refine FI.flat (n := m) (C := n + 1) (h.congr fun a b ha hb => ?_) augF_len (fun y hy => by
    obtain ⟨q, hq, rfl⟩ := List.getElem_of_mem hy
    rw [augF_len] at hq
    have := augF_row (M := M) (v := x) hq
    rw [hM] at this
    simpa [List.getD, hq, augF_len] using this)
  rw [agG, if_pos (by omega)]
  by_cases hb2 : b < n
  · rw [if_pos hb2, augF_lo ha (by omega)]
  · rw [if_neg hb2, show b = M.length by omega, augF_hi ha]
theorem sl_find (hp : primeB p = true) (h : RwI p n m M) (hvr : ∀ j, 0 ≤ x.getD j 0 ∧ x.getD j 0 < p) : slB p m M x = decide (fdG (rdA p (ivp p) (n + 1) (augF M m x)).2 n 0 < 0) := by
  have hl := h.len
  have hI := red1_I hp h hvr
  have e : red1 p m M x = rdA p (ivp p) (n + 1) (augF M m x) := by rw [red1, hl]
  rw [slB, hl, ← e]
  exact solB_find fun i hi => (hI.pv i hi).2
theorem sl_V (h : RwI p n m M) : slV p m M x = slX n (rdA p (ivp p) (n + 1) (augF M m x)).1 (rdA p (ivp p) (n + 1) (augF M m x)).2 (rdA p (ivp p) (n + 1) (augF M m x)).2.length := by
  rw [slV, red1, h.len]
theorem sl_pv (hp : primeB p = true) (h : RwI p n m M) (hvr : ∀ j, 0 ≤ x.getD j 0 ∧ x.getD j 0 < p) (hb : slB p m M x = true) : (rdA p (ivp p) (n + 1) (augF M m x)).2.length ≤ m ∧ ∀ i, i < (rdA p (ivp p) (n + 1) (augF M m x)).2.length → 0 ≤ (rdA p (ivp p) (n + 1) (augF M m x)).2.getD i 0 ∧ (rdA p (ivp p) (n + 1) (augF M m x)).2.getD i 0 < (n : Int) := by
  have hl := h.len
  have hI := red1_I hp h hvr
  have e : red1 p m M x = rdA p (ivp p) (n + 1) (augF M m x) := by rw [red1, hl]
  have hq := solB_iff.1 (show solB n (red1 p m M x).2 = true by rw [slB, hl] at hb; exact hb)
  rw [← e]
  have hf := hI.few
  rw [augF_len] at hf
  exact ⟨hf, fun i hi => ⟨(hI.pv i hi).1, hq i hi⟩⟩
theorem sl_rw (hp : primeB p = true) (h : RwI p n m M) (hvr : ∀ j, 0 ≤ x.getD j 0 ∧ x.getD j 0 < p) : RwI p m (n + 1) (rdA p (ivp p) (n + 1) (augF M m x)).1 := by
  have e : red1 p m M x = rdA p (ivp p) (n + 1) (augF M m x) := by rw [red1, h.len]
  rw [← e]
  exact (red1_I hp h hvr).rw augF_len
theorem slR_len (h : RwI p n m M) : (slR p m M x).length ≤ n := by
  unfold slR
  split
  · rw [slV, slX_len, h.len]; exact Nat.le_refl _
  · simp
theorem flt_next {x : List (List Int)} (hk : k < x.length) : (x.take k).flatten ++ x.getD k [] = (x.take (k + 1)).flatten := by
  rw [li_take hk, List.flatten_append]
  simp
theorem flt_le {x : List (List Int)} {b : Nat} (h : ∀ k, k < x.length → (x.getD k []).length ≤ b) : ∀ k, k ≤ x.length → (x.take k).flatten.length ≤ k * b
  | 0, _ => by simp
  | k + 1, hk => by
    have h1 := flt_le h k (by omega)
    have h2 := h k (by omega)
    rw [← flt_next (by omega), List.length_append, Nat.add_mul, Nat.one_mul]
    omega
theorem flt_all {x : List (List Int)} (h : x.length ≤ k) : (x.take k).flatten = x.flatten := by rw [List.take_of_length_le h]
theorem BrI.all (h : BrI p m n B) : ∀ q, q < B.length → (B.getD q []).length = m ∧ ∀ j, 0 ≤ (B.getD q []).getD j 0 ∧ (B.getD q []).getD j 0 < p := fun q hq => by
  rw [h.len] at hq
  have hn : 0 < n := by
    rcases Nat.eq_zero_or_pos n with e | e
    · subst e; simp at hq
    · exact e
  have e : q / n * n + q % n = q := by rw [Nat.mul_comm]; exact Nat.div_add_mod q n
  have h1 := (Nat.div_lt_iff_lt_mul hn).2 hq
  have h2 := Nat.mod_lt q hn
  rw [← e]
  exact ⟨h.row _ _ h1 h2, h.rg _ _ h1 h2⟩
theorem tb_next {q : Nat} (hq : q < B.length) (hd : d = tbD p m M (B.take q)) (hs : slB p m M (B.getD q []) = true) : d ++ slR p m M (B.getD q []) = tbD p m M (B.take (q + 1)) := by
  rw [hd, slR, if_pos hs, li_take hq, tbD, tbD, List.map_append, List.flatten_append]
  simp
theorem tb_ok {q : Nat} (hq : q < B.length) (hb : tbB p m M (B.take q) = true) (hs : slB p m M (B.getD q []) = true) : tbB p m M (B.take (q + 1)) = true := by
  rw [tbB] at hb ⊢
  rw [li_take hq, List.all_append, hb]
  simpa using hs
theorem tb_no {q : Nat} (hq : q < B.length) (hs : slB p m M (B.getD q []) = false) : tbB p m M B = false := by
  rw [tbB, List.all_eq_false]
  refine ⟨B.getD q [], ?_, by rw [hs]; simp⟩
  rw [List.getD, List.getElem?_eq_getElem hq]
  exact List.getElem_mem hq
theorem tb_len (h : RwI p n m M) (hd : d = tbD p m M (B.take k)) : d.length ≤ k * n := by
  rw [hd, tbD, flat_lenC (C := n) _ (fun y hy => by
    obtain ⟨z, _, rfl⟩ := List.mem_map.1 hy
    rw [slV, slX_len, h.len]), List.length_map, List.length_take]
  exact Nat.mul_le_mul_right _ (Nat.min_le_left _ _)
theorem all_take {α : Type} {l : List α} {k : Nat} (h : l.length ≤ k) : l.take k = l := List.take_of_length_le h
end
section
variable {hs : List Hd} {ds : List (List Int)} {k : Nat}
theorem aoK_no1 (h : matOkB (maK hs ds k) = false) : aoK hs ds k = false := by simp [aoK, h]
theorem aoK_no2 (h : (maK hs ds k).r ≠ (maK hs ds k).c) : aoK hs ds k = false := by simp [aoK, h]
theorem aoK_no3 (h : (maK hs ds k).r ≠ (maK hs ds 0).r) : aoK hs ds k = false := by simp [aoK, h]
theorem aoK_no4 (h : (maK hs ds k).p ≠ (maK hs ds 0).p) : aoK hs ds k = false := by simp [aoK, h]
theorem aoK_yes (h1 : matOkB (maK hs ds k) = true) (h2 : (maK hs ds k).r = (maK hs ds k).c) (h3 : (maK hs ds k).r = (maK hs ds 0).r) (h4 : (maK hs ds k).p = (maK hs ds 0).p) : aoK hs ds k = true := by
  rw [aoK, h1, Bool.true_and, Bool.and_eq_true, Bool.and_eq_true, beq_iff_eq, beq_iff_eq, beq_iff_eq]
  exact ⟨h2, h3, h4⟩
theorem aoB_no (h : aoK hs ds k = false) (hk : k < hs.length) : aoB hs ds = false := by
  rw [aoB, Bool.and_eq_false_iff]
  right
  rw [List.all_eq_false]
  exact ⟨k, by simpa using hk, by rw [h]; simp⟩
theorem aoB_few (h : ¬ (1 ≤ hs.length ∧ hs.length ≤ 28)) : aoB hs ds = false := by
  rw [aoB, decide_eq_false h]
  rfl
theorem aoB_yes (h : 1 ≤ hs.length ∧ hs.length ≤ 28) (ha : ∀ q, q < hs.length → aoK hs ds q = true) : aoB hs ds = true := by
  rw [aoB, decide_eq_true h, Bool.true_and, List.all_eq_true]
  exact fun q hq => ha q (by simpa using hq)
theorem ao_next (ha : ∀ q, q < k → aoK hs ds q = true) (h : aoK hs ds k = true) : ∀ q, q < k + 1 → aoK hs ds q = true := fun q hq => by
  by_cases e : q = k
  · rw [e]; exact h
  · exact ha q (by omega)
theorem alOk_no1 (h : aoB hs ds = false) : alOk hs ds = false := by rw [alOk, h]; rfl
theorem alOk_no2 (h : frB (hs.getD 0 hd0).1 (ds.getD 0 []).length ds = false) : alOk hs ds = false := by rw [alOk, h]; simp
theorem alOk_is (h : aoB hs ds = true) (hf : frB (hs.getD 0 hd0).1 (ds.getD 0 []).length ds = true) : alOk hs ds = tbB (hs.getD 0 hd0).1 (ds.getD 0 []).length ds (brA hs ds) := by rw [alOk, h, hf]; rfl
end
end Go.Proofs.Ytbmnnbglipkidaa
