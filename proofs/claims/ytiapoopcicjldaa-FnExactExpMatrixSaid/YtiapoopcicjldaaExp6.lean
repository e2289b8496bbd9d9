/-
  Inverses of small numbers modulo a prime: both ways agree.
-/
import Derived.Test.YtiapoopcicjldaaExp3
import Derived.Test.YtiapoopcicjldaaExp4
import Derived.Test.YtiapoopcicjldaaExp5
import Derived.Test.YtiapoopcicjldaaExv
namespace Go.Proofs.Ytiapoopcicjldaa
set_option linter.unusedVariables false
set_option linter.unusedSimpArgs false
set_option linter.unusedVariables false
theorem okC_get {a b p : Nat} (h : (List.range' a b).all okC = true) (h1 : a ≤ p) (h2 : p < a + b) : okC p = true := List.all_eq_true.1 h p (List.mem_range'_1.2 ⟨h1, h2⟩)
theorem okC_all {p : Nat} (h : p < 10008) : okC p = true := by
  by_cases h0 : p < 1000
  · exact okC_get okC0 (by omega) (by omega)
  by_cases h1 : p < 2000
  · exact okC_get okC1000 (by omega) (by omega)
  by_cases h2 : p < 3000
  · exact okC_get okC2000 (by omega) (by omega)
  by_cases h3 : p < 4200
  · exact okC_get okC3000 (by omega) (by omega)
  by_cases h4 : p < 5400
  · exact okC_get okC4200 (by omega) (by omega)
  by_cases h5 : p < 6600
  · exact okC_get okC5400 (by omega) (by omega)
  by_cases h6 : p < 7800
  · exact okC_get okC6600 (by omega) (by omega)
  by_cases h7 : p < 9000
  · exact okC_get okC7800 (by omega) (by omega)
  exact okC_get okC9000 (by omega) (by omega)
theorem prC_of {p : Nat} (h : primeB (p : Int) = true) : prC p = true := by
  simp only [primeB, Bool.and_eq_true, List.all_eq_true] at h
  refine List.all_eq_true.2 fun d hd => ?_
  have := h.2 d hd
  simp only [Bool.or_eq_true, decide_eq_true_eq, Bool.not_eq_true', beq_eq_false_iff_ne] at this ⊢
  rcases this with (h1 | h1) | h1
  · exact .inl (.inl (Nat.ble_eq_true_of_le (by omega)))
  · exact .inl (.inr (Nat.ble_eq_true_of_le (by have : (p : Int) < ((d * d : Nat) : Int) := by rw [Int.natCast_mul]; exact h1
                                                omega)))
  · refine .inr ?_
    cases hb : Nat.beq (p % d) 0
    · rfl
    · exact absurd (show (p : Int) % (d : Int) = 0 by have := Nat.eq_of_beq_eq_true hb; omega) h1
theorem inv_ok {p : Int} {k : Nat} (hp : primeB p = true) (h1 : 1 ≤ k) (h2 : k ≤ 40) (h3 : (k : Int) < p) : ∃ r, ivR 30 k p 1 0 = some r ∧ r % p = pwR p 14 k (p - 2) 1 % p := by
  have hr := primeB_range hp
  obtain ⟨q, rfl⟩ : ∃ q : Nat, p = q := ⟨p.toNat, by omega⟩
  have h := okC_all (p := q) (by omega)
  rw [okC, prC_of hp, Bool.not_true, Bool.false_or] at h
  have h4 := List.all_eq_true.1 h k (List.mem_range.2 (by omega))
  have n1 : Nat.beq k 0 = false := by
    cases hb : Nat.beq k 0
    · rfl
    · exact absurd (Nat.eq_of_beq_eq_true hb) (by omega)
  have n2 : Nat.ble q k = false := by
    cases hb : Nat.ble q k
    · rfl
    · exact absurd (Nat.le_of_ble_eq_true hb) (by omega)
  rw [n1, n2, Bool.false_or, Bool.false_or, inC] at h4
  split at h4
  · rename_i r hr2
    refine ⟨r, ivN_R hr2, ?_⟩
    rw [of_decide_eq_true h4, show ((q : Int) - 2) = ((q - 2 : Nat) : Int) by omega, show (1 : Int) = ((1 : Nat) : Int) from rfl, pwR_C]
    rfl
  · cases h4
theorem pwR_rg {p : Int} (hp : 1 < p) : ∀ {f : Nat} {x n o : Int}, (0 ≤ x ∧ x < p) → (0 ≤ o ∧ o < p) → 0 ≤ pwR p f x n o ∧ pwR p f x n o < p
  | 0, x, n, o, _, h => h
  | f + 1, x, n, o, hx, ho => by
    rw [pwR]
    split
    · refine pwR_rg hp ⟨Int.tmod_nonneg _ (Int.mul_nonneg hx.1 hx.1), Int.tmod_lt_of_pos _ (by omega)⟩ ?_
      split
      · exact ⟨Int.tmod_nonneg _ (Int.mul_nonneg ho.1 hx.1), Int.tmod_lt_of_pos _ (by omega)⟩
      · exact ho
    · exact ho
theorem inv_eq {p : Int} {k : Nat} {r : Int} (hp : primeB p = true) (h1 : 1 ≤ k) (h2 : k ≤ 40) (h3 : (k : Int) < p) (hr : ivR 30 k p 1 0 = some r) : r % p = ivO k p := by
  obtain ⟨r2, e1, e2⟩ := inv_ok hp h1 h2 h3
  have hpr := primeB_range hp
  rw [e1] at hr
  obtain rfl := Option.some.inj hr
  have hk : (k : Int) % p = k := Int.emod_eq_of_lt (by omega) h3
  rw [ivO, hp, hk, if_neg (by simp; omega)]
  have g := pwR_rg (p := p) (f := 14) (x := k) (n := p - 2) (o := 1) (by omega) ⟨by omega, h3⟩ ⟨by omega, by omega⟩
  rw [e2]
  by_cases hp2 : p = 2
  · rw [if_pos hp2]
    subst hp2
    have : k = 1 := by omega
    subst this
    rfl
  · rw [if_neg hp2, Int.tmod_eq_emod_of_nonneg g.1]
end Go.Proofs.Ytiapoopcicjldaa
