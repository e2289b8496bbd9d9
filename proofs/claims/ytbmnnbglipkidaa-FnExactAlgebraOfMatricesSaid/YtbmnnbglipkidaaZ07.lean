/-
  Systems with free rows: when they can be solved, and that the solution is the only one. No program is spoken of.
-/
import Derived.Test.YtbmnnbglipkidaaLiv
namespace Go.Proofs.Ytbmnnbglipkidaa
set_option linter.unusedVariables false
set_option linter.unusedSimpArgs false
set_option linter.unusedVariables false
set_option linter.unusedSimpArgs false
section
variable {p : Int} {m n c : Nat} {M : List (List Int)} {v w : List Int} {s u t : List (List Int) × List Int}
def isSol (p : Int) (m n : Nat) (M : List (List Int)) (v : List Int) (x : Nat → Int) : Prop := ∀ j, j < m → cg p (sm n fun k => x k * at2 M k j) (v.getD j 0)
def solB (n : Nat) (qs : List Int) : Bool := qs.all fun q => decide (q < (n : Int))
theorem solB_iff {qs : List Int} : solB n qs = true ↔ ∀ i, i < qs.length → qs.getD i 0 < (n : Int) := by
  simp only [solB, List.all_eq_true, decide_eq_true_eq]
  refine ⟨fun h i hi => ?_, fun h q hq => ?_⟩
  · have : qs.getD i 0 = qs[i] := by simp [List.getD, hi]
    rw [this]
    exact h _ (List.getElem_mem hi)
  · obtain ⟨i, hi, rfl⟩ := List.getElem_of_mem hq
    have := h i hi
    simpa [List.getD, hi] using this
theorem sol_iff (hp : 2 ≤ p) (hn : M.length = n) (hu : RdI p (n + 1) (augF M m v) (n + 1) u) : solB n u.2 = true ↔ ∃ x, isSol p m n M v x := by
  rw [solB_iff]
  refine ⟨fun h => ⟨_, solve_yes hn hu h⟩, fun ⟨x, hx⟩ i hi => Classical.byContradiction fun hc => solve_no hp hn hu hi hc x hx⟩
theorem sol_uniq (hp : 2 ≤ p) (hn : M.length = n) (hM : ∀ i, i < n → (M.getD i []).length = m) (h : RdI p (m + n) (extE M) c s) (hf : s.2.length = n) (hps : ∀ i, i < n → s.2.getD i 0 < (m : Int)) (hu : RdI p (n + 1) (augF M m v) (n + 1) u) {x : Nat → Int} (hx : isSol p m n M v x) (hr : ∀ k, k < n → 0 ≤ x k ∧ x k < p) :
    ∀ k, k < n → (slX n u.1 u.2 u.2.length).getD k 0 = x k := fun k hk => by
  have hq := solB_iff.1 ((sol_iff hp hn hu).2 ⟨x, hx⟩)
  have hq2 : ∀ i, i < u.2.length → 0 ≤ u.2.getD i 0 ∧ u.2.getD i 0 < (n : Int) := fun i hi => ⟨(hu.pv i hi).1, hq i hi⟩
  have hy := solve_yes hn hu hq
  have hfree := rows_free hn hM h hf hps (x := fun k => (slX n u.1 u.2 u.2.length).getD k 0 - x k) (fun j hj => by
    have h1 := (hy j hj).sub (hx j hj)
    rw [Int.sub_self] at h1
    refine (cg.of_eq ?_).trans h1
    rw [Int.sub_eq_add_neg, ← Int.neg_one_mul (sm n _), ← sm_mulL, ← sm_add]
    exact sm_congr fun k _ => by rw [Int.sub_mul, Int.neg_one_mul, Int.sub_eq_add_neg]) k hk
  have h2 := hfree.add (cg.refl (x k))
  rw [Int.sub_add_cancel, Int.zero_add] at h2
  exact cg.eq h2 (slX_rg hp hu.rg hq2 hu.inc k) (hr k hk)
theorem isSol_neg {x : Nat → Int} (hx : isSol p m n M v x) (hw : ∀ j, j < m → cg p (w.getD j 0) (-v.getD j 0)) : isSol p m n M w fun k => (p - x k) % p := fun j hj => by
  refine (sm_cg (g := fun k => -1 * (x k * at2 M k j)) fun k _ => ?_).trans ?_
  · refine ((cg.emod (p - x k)).mulR _).trans ⟨at2 M k j, ?_⟩
    rw [Int.neg_one_mul, Int.sub_mul]
    omega
  · rw [sm_mulL, Int.neg_one_mul]
    exact ((hx j hj).neg).trans (hw j hj).symm
theorem isSol_zero (hw : ∀ j, j < m → cg p (w.getD j 0) 0) : isSol p m n M w fun _ => 0 := fun j hj => by
  rw [sm_zero fun k _ => Int.zero_mul _]
  exact (hw j hj).symm
end
end Go.Proofs.Ytbmnnbglipkidaa

namespace Go.Proofs.Ytbmnnbglipkidaa
set_option linter.unusedVariables false
set_option linter.unusedSimpArgs false
set_option linter.unusedVariables false
set_option linter.unusedSimpArgs false
def adK (p f : Int) (x y : List Int) (k : Nat) : List Int := (List.range k).foldl (fun a j => a.set j ((a.getD j 0 + f * y.getD j 0) % p)) x
section
variable {p f : Int} {x y : List Int} {k j : Nat}
theorem adK_next : adK p f x y (k + 1) = (adK p f x y k).set k (((adK p f x y k).getD k 0 + f * y.getD k 0) % p) := by
  rw [adK, List.range_succ, List.foldl_append]
  rfl
theorem adK_len : ∀ k, (adK p f x y k).length = x.length
  | 0 => rfl
  | k + 1 => by rw [adK_next, List.length_set, adK_len k]
theorem adK_at : ∀ k, k ≤ x.length → ∀ j, (adK p f x y k).getD j 0 = if j < k then (x.getD j 0 + f * y.getD j 0) % p else x.getD j 0
  | 0, _, j => rfl
  | k + 1, hk, j => by
    have ih := adK_at k (by omega)
    rw [adK_next, getD_set2 (by rw [adK_len]; omega), ih k, if_neg (Nat.lt_irrefl k), ih j]
    by_cases e : j = k
    · rw [if_pos e, if_pos (by omega), e]
    · rw [if_neg e]
      by_cases h : j < k
      · rw [if_pos h, if_pos (by omega)]
      · rw [if_neg h, if_neg (by omega)]
theorem adK_all (h : k = x.length) : adK p f x y k = adR p f x y := by
  subst h
  refine ext_getD (d := 0) (by rw [adK_len]; simp [adR]) fun j hj => ?_
  rw [adK_len] at hj
  rw [adK_at _ (Nat.le_refl _), if_pos hj]
  simp [adR, List.getD, hj]
theorem ad_bd {a b A B : Int} (ha : 0 ≤ a ∧ a ≤ A) (hb : 0 ≤ b ∧ b ≤ B) : 0 ≤ a * b ∧ a * b ≤ A * B := ⟨Int.mul_nonneg ha.1 hb.1, Int.mul_le_mul ha.2 hb.2 hb.1 (by omega)⟩
end
def fdG : List Int → Int → Nat → Int
  | [], _, _ => -1
  | y :: t, x, k => if y = x then (k : Int) else fdG t x (k + 1)
theorem fdG_drop {l : List Int} {x : Int} {k : Nat} (hk : k < l.length) : fdG (l.drop k) x k = if l.getD k 0 = x then (k : Int) else fdG (l.drop (k + 1)) x (k + 1) := by
  rw [List.drop_eq_getElem_cons hk, fdG]
  have : l.getD k 0 = l[k] := by simp [List.getD, hk]
  rw [this]
theorem fdG_end {l : List Int} {x : Int} {k : Nat} (hk : l.length ≤ k) : fdG (l.drop k) x k = -1 := by rw [List.drop_eq_nil_of_le hk, fdG]
theorem fdG_neg {x : Int} : ∀ (l : List Int) (k : Nat), fdG l x k < 0 ↔ x ∉ l
  | [], k => by simp [fdG]
  | y :: t, k => by
    rw [fdG]
    by_cases e : y = x
    · rw [if_pos e]
      simp [e]
    · rw [if_neg e, fdG_neg t (k + 1)]
      simp [Ne.symm e]
theorem solB_find {n : Nat} {qs : List Int} (h : ∀ i, i < qs.length → qs.getD i 0 < ((n + 1 : Nat) : Int)) : solB n qs = decide (fdG qs n 0 < 0) := by
  have h2 : ∀ q ∈ qs, q < ((n + 1 : Nat) : Int) := fun q hq => by
    obtain ⟨i, hi, rfl⟩ := List.getElem_of_mem hq
    have := h i hi
    simpa [List.getD, hi] using this
  rw [Bool.eq_iff_iff, decide_eq_true_eq, fdG_neg, solB, List.all_eq_true]
  refine ⟨fun h3 hn => ?_, fun h3 q hq => ?_⟩
  · have := of_decide_eq_true (h3 _ hn)
    omega
  · have h4 := h2 q hq
    have h5 : q ≠ n := fun e => h3 (e ▸ hq)
    exact decide_eq_true (by omega)
end Go.Proofs.Ytbmnnbglipkidaa

namespace Go.Proofs.Ytbmnnbglipkidaa
set_option linter.unusedVariables false
set_option linter.unusedSimpArgs false
set_option linter.unusedVariables false
set_option linter.unusedSimpArgs false
theorem flat_lenC {C : Nat} : ∀ (L : List (List Int)), (∀ x, x ∈ L → x.length = C) → L.flatten.length = L.length * C
  | [], _ => by simp
  | x :: t, h => by
    rw [List.flatten_cons, List.length_append, flat_lenC t (fun y hy => h y (List.mem_cons_of_mem _ hy)), h x (List.mem_cons_self ..), List.length_cons, Nat.add_mul, Nat.one_mul, Nat.add_comm]
theorem flat_at {C : Nat} : ∀ (L : List (List Int)), (∀ x, x ∈ L → x.length = C) → ∀ i j, j < C → L.flatten.getD (i * C + j) 0 = at2 L i j
  | [], _, i, j, _ => by simp [at2, List.getD]
  | x :: t, h, 0, j, hj => by
    have hx := h x (List.mem_cons_self ..)
    simp only [List.flatten_cons, Nat.zero_mul, Nat.zero_add, at2, List.getD_cons_zero, List.getD]
    rw [List.getElem?_append_left (by omega)]
    simp
  | x :: t, h, i + 1, j, hj => by
    have hx := h x (List.mem_cons_self ..)
    have ih := flat_at t (fun y hy => h y (List.mem_cons_of_mem _ hy)) i j hj
    have e : (i + 1) * C + j = x.length + (i * C + j) := by rw [hx, Nat.add_mul, Nat.one_mul]; omega
    simp only [List.getD] at ih
    simp only [List.flatten_cons, at2, List.getD_cons_succ, List.getD]
    rw [e, List.getElem?_append_right (by omega), Nat.add_sub_cancel_left, ih]
    simp [at2, List.getD]
def stK (F : Int → Nat → Int) (x : List Int) (k : Nat) : List Int := (List.range k).foldl (fun a j => a.set j (F (a.getD j 0) j)) x
section
variable {F : Int → Nat → Int} {x y : List Int} {k : Nat} {p b : Int}
theorem stK_next : stK F x (k + 1) = (stK F x k).set k (F ((stK F x k).getD k 0) k) := by
  rw [stK, List.range_succ, List.foldl_append]
  rfl
theorem stK_len : ∀ k, (stK F x k).length = x.length
  | 0 => rfl
  | k + 1 => by rw [stK_next, List.length_set, stK_len k]
theorem stK_at : ∀ k, k ≤ x.length → ∀ j, (stK F x k).getD j 0 = if j < k then F (x.getD j 0) j else x.getD j 0
  | 0, _, j => rfl
  | k + 1, hk, j => by
    have ih := stK_at k (by omega)
    rw [stK_next, getD_set2 (by rw [stK_len]; omega), ih k, if_neg (Nat.lt_irrefl k), ih j]
    by_cases e : j = k
    · rw [if_pos e, if_pos (by omega), e]
    · rw [if_neg e]
      by_cases h : j < k
      · rw [if_pos h, if_pos (by omega)]
      · rw [if_neg h, if_neg (by omega)]
theorem stK_sc (h : k = x.length) : stK (fun a _ => a * b % p) x k = scR p b x := by
  subst h
  refine ext_getD (d := 0) (by rw [stK_len, scR, List.length_map]) fun j hj => ?_
  rw [stK_len] at hj
  rw [stK_at _ (Nat.le_refl _), if_pos hj, scR_at]
theorem adR_el (hl : x.length = y.length) : adR p (p - b) x y = elR p b x y := by
  refine ext_getD (d := 0) (by simp [adR, elR]) fun j hj => ?_
  rw [adR_at hl, elR_at hl, Int.sub_mul, show x.getD j 0 + (p * y.getD j 0 - b * y.getD j 0) = x.getD j 0 - b * y.getD j 0 + p * y.getD j 0 by omega, Int.add_mul_emod_self_left]
end
end Go.Proofs.Ytbmnnbglipkidaa
