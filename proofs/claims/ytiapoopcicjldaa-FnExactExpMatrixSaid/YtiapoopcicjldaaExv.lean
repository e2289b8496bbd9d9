/-
  The unit matrix, powers, and when they vanish, as the code reckons them.
-/
import Derived.Test.YtiapoopcicjldaaExm
import Derived.Test.YtiapoopcicjldaaExp2
import Derived.Test.YtiapoopcicjldaaRnb
namespace Go.Proofs.Ytiapoopcicjldaa
set_option linter.unusedVariables false
set_option linter.unusedSimpArgs false
set_option linter.unusedVariables false
set_option linter.unusedSimpArgs false
def unS (n : Int) (o : List Int) (i : Nat) : List Int := o.set ((i : Int) * n + (i : Int)).toNat 1
def unI (n : Int) : List Int := (List.range n.toNat).foldl (unS n) (List.replicate (n * n).toNat 0)
theorem unI_eq (n : Nat) : unI n = unF n := by
  unfold unI unF
  rw [Int.toNat_natCast, idxN]
  exact foldl_fun (fun o i => by unfold unS; rw [idxN2]) _ _
theorem unI_len (n : Int) : (unI n).length = (n * n).toNat := fold_inv (fun o : List Int => o.length = (n * n).toNat) _ (by simp) fun o i _ h => by rw [unS, List.length_set]; exact h
def pwI (p n : Int) (m : List Int) : Nat → List Int
  | 0 => unI n
  | k + 1 => mulF p n n n (pwI p n m k) m
theorem pwI_eq {p : Int} {n : Nat} {m : List Int} : ∀ k, pwI p n m k = pwM p n m k
  | 0 => unI_eq n
  | k + 1 => by rw [pwI, pwM, pwI_eq k]
theorem pwI_len {p n : Int} {m : List Int} : ∀ k, (pwI p n m k).length = (n * n).toNat
  | 0 => unI_len n
  | k + 1 => mulF_len ..
theorem pwI_rg {p n : Int} {m : List Int} (hp : 1 < p ∧ p ≤ 10007) (hm : Rg p m) : ∀ k, Rg p (pwI p n m k)
  | 0 => fold_inv (fun o => Rg p o) _ (Rg.rep (by omega) _) fun o i _ h => h.set (by omega) _
  | k + 1 => mulF_rg (by omega) (pwI_rg hp hm k) hm
/-- The first power that vanishes. -/
def nlG (p n : Int) (m : List Int) : Nat → Nat → Int
  | 0, _ => -1
  | f + 1, k => if zeroB (pwI p n m k) = true then (k : Int) else nlG p n m f (k + 1)
def nlF (M : Mat) : Int := if matOkB M = true ∧ M.r = M.c then nlG M.p M.r M.d (M.r.toNat + 1) 0 else -1
theorem nlG_bd {p n : Int} {m : List Int} : ∀ {f k : Nat}, -1 ≤ nlG p n m f k ∧ nlG p n m f k < ((f + k : Nat) : Int) ∨ nlG p n m f k = -1
  | 0, k => .inr rfl
  | f + 1, k => by
    rw [nlG]
    split
    · exact .inl ⟨by omega, by omega⟩
    · rcases nlG_bd (p := p) (n := n) (m := m) (f := f) (k := k + 1) with h | h
      · exact .inl ⟨h.1, by omega⟩
      · exact .inr h
theorem upto_next {x : List Int} {k : Nat} (h : ∀ i, i < k → x.getD i 0 = 0) (hk : x.getD k 0 = 0) : ∀ i, i < k + 1 → x.getD i 0 = 0 := fun i hi => by
  rcases Nat.lt_or_eq_of_le (Nat.le_of_lt_succ hi) with h9 | h9
  · exact h i h9
  · subst h9
    exact hk
theorem zero_no {xs : List Int} {i : Nat} (h : xs.getD i 0 ≠ 0) : zeroB xs = false := by
  cases hz : zeroB xs with
  | false => rfl
  | true =>
    exfalso
    apply h
    by_cases hi : i < xs.length
    · have := List.all_eq_true.1 hz xs[i] (List.getElem_mem hi)
      simpa [List.getD, hi] using this
    · simp [List.getD, List.getElem?_eq_none (Nat.le_of_not_lt hi)]
theorem zero_all {xs : List Int} (h : ∀ i, i < xs.length → xs.getD i 0 = 0) : zeroB xs = true := List.all_eq_true.2 fun x hx => by
  obtain ⟨i, hi, rfl⟩ := List.getElem_of_mem hx
  have := h i hi
  simpa [List.getD, hi] using this
theorem nlG_next {p n : Int} {m : List Int} {f k : Nat} (hf : f ≠ 0) (h : zeroB (pwI p n m k) = false) : nlG p n m f k = nlG p n m (f - 1) (k + 1) := by
  obtain ⟨g, rfl⟩ := Nat.exists_eq_succ_of_ne_zero hf
  rw [Nat.succ_eq_add_one, nlG, h, if_neg (by simp)]
  rfl
theorem nlG_hit {p n : Int} {m : List Int} {f k : Nat} (hf : f ≠ 0) (h : zeroB (pwI p n m k) = true) : nlG p n m f k = k := by
  obtain ⟨g, rfl⟩ := Nat.exists_eq_succ_of_ne_zero hf
  rw [Nat.succ_eq_add_one, nlG, if_pos h]
/-! Inverses -/
def ivE (n p : Int) : Int := match ivR 30 n p 1 0 with | some r => r % p | none => 0
theorem tdiv_le2 {a b : Int} (ha : 0 ≤ a ∧ a ≤ 10007) (hb : 0 < b) : 0 ≤ a.tdiv b ∧ a.tdiv b ≤ 10007 := by
  rw [Int.tdiv_eq_ediv_of_nonneg ha.1]
  exact ⟨Int.ediv_nonneg ha.1 (by omega), Int.le_trans (Int.ediv_le_self b ha.1) ha.2⟩
theorem mul_ab2 {a y : Int} (ha : 0 ≤ a ∧ a ≤ 10007) (hy : -100000 ≤ y ∧ y ≤ 100000) : -(10007 * 100000) ≤ a * y ∧ a * y ≤ 10007 * 100000 := by
  rcases Int.le_total 0 y with h | h
  · have := mulBd (A := 10007) (B := 100000) ha ⟨h, hy.2⟩
    omega
  · have := mulBd (A := 10007) (B := 100000) (b := -y) ha ⟨by omega, by omega⟩
    rw [Int.mul_neg] at this
    omega
theorem pw_more {f : Nat} {b : Int} (h : 0 ≤ b ∧ b < 2 ^ f) (hb : 0 < b) : ∃ g, f = g + 1 := by
  cases f with
  | zero => exfalso; have := h.2; simp at this; omega
  | succ g => exact ⟨g, rfl⟩
theorem pw_half {g : Nat} {b : Int} (h : 0 ≤ b ∧ b < 2 ^ (g + 1)) (hb : 0 < b) : 0 ≤ b.tdiv 2 ∧ b.tdiv 2 < 2 ^ g := by
  rw [Int.tdiv_eq_ediv_of_nonneg h.1]
  have := h.2
  rw [Int.pow_succ] at this
  omega
theorem tdiv_half {b : Int} (h : 0 ≤ b) : 0 ≤ b.tdiv 2 ∧ b.tdiv 2 ≤ b := by rw [Int.tdiv_eq_ediv_of_nonneg h]; omega
theorem tm_rg {p x : Int} {q : Int} (h : 0 ≤ x ∧ x ≤ q) (hp : 0 < p := by omega) : 0 ≤ x.tmod p ∧ x.tmod p < p := ⟨Int.tmod_nonneg _ h.1, Int.tmod_lt_of_pos _ hp⟩
theorem pwR_end {p x o n : Int} {f : Nat} (h : ¬ 0 < n) : pwR p f x n o = o := by
  cases f with
  | zero => rfl
  | succ g => rw [pwR, if_neg h]
theorem pwR_odd {p x o n : Int} {f : Nat} (h : 0 < n) (h2 : n.tmod 2 = 1) : pwR p (f + 1) x n o = pwR p f ((x * x).tmod p) (n.tdiv 2) ((o * x).tmod p) := by rw [pwR, if_pos h, if_pos h2]
theorem pwR_even {p x o n : Int} {f : Nat} (h : 0 < n) (h2 : n.tmod 2 ≠ 1) : pwR p (f + 1) x n o = pwR p f ((x * x).tmod p) (n.tdiv 2) o := by rw [pwR, if_pos h, if_neg h2]
/-- The inverse as the second text has it. -/
def ivO (n p : Int) : Int := if primeB p = false ∨ n % p = 0 then 0 else if p = 2 then 1 else (pwR p 14 (n % p) (p - 2) 1).tmod p
theorem ivO_0 {n p : Int} (hp : primeB p = true) (h : n % p = 0) : ivO n p = 0 := if_pos (.inr h)
theorem ivO_1 {n p : Int} (hp : primeB p = true) (h : n % p ≠ 0) (h2 : p = 2) : ivO n p = 1 := by rw [ivO, if_neg (by simp [hp, h]), if_pos h2]
theorem ivO_2 {n p : Int} (hp : primeB p = true) (h : n % p ≠ 0) (h2 : p ≠ 2) : ivO n p = (pwR p 14 (n % p) (p - 2) 1).tmod p := by rw [ivO, if_neg (by simp [hp, h]), if_neg h2]
end Go.Proofs.Ytiapoopcicjldaa
