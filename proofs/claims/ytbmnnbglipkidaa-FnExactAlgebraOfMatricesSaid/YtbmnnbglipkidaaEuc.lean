/-
  Inverses modulo a prime, for all numbers: the two texts' ways give the same. No program is spoken of.
-/
import Derived.Test.YtbmnnbglipkidaaFer
import Derived.Test.YtbmnnbglipkidaaZ04
namespace Go.Proofs.Ytbmnnbglipkidaa
set_option linter.unusedVariables false
set_option linter.unusedSimpArgs false
set_option linter.unusedVariables false
set_option linter.unusedSimpArgs false
theorem pwC_is {p : Nat} : ∀ (f x n o : Nat), n < 2 ^ f → o < p → pwC p f x n o = o * x ^ n % p
  | 0, x, n, o, h, ho => by
    have : n = 0 := by simpa using h
    rw [pwC, this, Nat.pow_zero, Nat.mul_one, Nat.mod_eq_of_lt ho]
  | f + 1, x, n, o, h, ho => by
    rw [pwC]
    by_cases hn : 0 < n
    · have hh : n / 2 < 2 ^ f := by rw [Nat.pow_succ] at h; omega
      have e1 : x ^ n = (x * x) ^ (n / 2) * x ^ (n % 2) := by
        rw [← Nat.pow_two, ← Nat.pow_mul, ← Nat.pow_add, Nat.div_add_mod]
      rw [blt_pos hn, cond_true]
      by_cases h2 : n % 2 = 1
      · rw [show Nat.beq (n % 2) 1 = true by rw [Nat.beq_eq]; exact h2, cond_true, pwC_is f _ _ _ hh (Nat.mod_lt _ (by omega)), e1, h2, Nat.pow_one, Nat.mul_mod, Nat.mod_mod, ← Nat.pow_mod, ← Nat.mul_mod]
        congr 1
        rw [Nat.mul_assoc, Nat.mul_comm x]
      · rw [show Nat.beq (n % 2) 1 = false from by
          cases hb : Nat.beq (n % 2) 1
          · rfl
          · exact absurd (Nat.eq_of_beq_eq_true hb) h2, cond_false, pwC_is f _ _ _ hh ho, e1, show n % 2 = 0 by omega, Nat.pow_zero, Nat.mul_one, Nat.mul_mod, ← Nat.pow_mod, ← Nat.mul_mod]
    · rw [blt_no hn, cond_false, show n = 0 by omega, Nat.pow_zero, Nat.mul_one, Nat.mod_eq_of_lt ho]
theorem sgI_not (s : Bool) (x : Nat) : sgI (!s) x = -sgI s x := by cases s <;> simp [sgI]
theorem sgI_add (s : Bool) (x y q : Nat) : sgI s (x + q * y) = sgI s x + q * sgI s y := by
  cases s
  · simp only [sgI, cond_false, Int.natCast_add, Int.natCast_mul, Int.mul_neg]; omega
  · simp only [sgI, cond_true, Int.natCast_add, Int.natCast_mul]
theorem ivN_ok {p n : Nat} (hp : p ≤ 10007) : ∀ (f a b x y : Nat) (s : Bool), b ≤ a → a * b < 2 ^ f → 1 ≤ f → Nat.gcd a b = 1 → a * y + b * x = p → a ≤ 10007 → cg (p : Int) a (sgI s x * n) → cg (p : Int) b (sgI (!s) y * n) → ∃ r, ivN f a b x y s = some r ∧ cg (p : Int) (r * n) 1
  | 0, a, b, x, y, s, hba, hf, h1, hg, hs, ha, c1, c2 => by omega
  | f + 1, a, b, x, y, s, hba, hf, h1, hg, hs, ha, c1, c2 => by
    rw [ivN]
    by_cases ha1 : a ≤ 1
    · rw [Nat.ble_eq_true_of_le ha1, cond_true]
      have ea : a = 1 := by
        rcases Nat.eq_zero_or_pos a with h | h
        · rw [h, show b = 0 by omega] at hg; simp at hg
        · omega
      rw [ea] at c1
      exact ⟨_, rfl, c1.symm⟩
    · have hb0 : 0 < b := Nat.pos_of_ne_zero fun e => by rw [e, Nat.gcd_zero_right] at hg; omega
      have hx : x ≤ p := by have := Nat.le_mul_of_pos_left x hb0; omega
      have hy : y ≤ p := by have := Nat.le_mul_of_pos_left y (show 0 < a by omega); omega
      have n1 : Nat.ble a 1 = false := by
        cases hb : Nat.ble a 1
        · rfl
        · exact absurd (Nat.le_of_ble_eq_true hb) ha1
      rw [n1, cond_false, blt_pos hb0, Nat.ble_eq_true_of_le (show b ≤ 10007 by omega), Nat.ble_eq_true_of_le ha, Nat.ble_eq_true_of_le (show x ≤ 100000 by omega), Nat.ble_eq_true_of_le (show y ≤ 100000 by omega), Bool.and_true, Bool.and_true, Bool.and_true, Bool.and_true, cond_true]
      have hm := Nat.mod_lt a hb0
      have hd := Nat.div_add_mod a b
      have hq : 1 ≤ a / b := (Nat.le_div_iff_mul_le hb0).2 (by omega)
      have hbq : b ≤ b * (a / b) := Nat.le_mul_of_pos_right b hq
      have hhalf : b * (a % b) < 2 ^ f := by
        have h2 : 2 * (a % b) + 1 ≤ a := by omega
        have h3 := Nat.mul_le_mul_left b h2
        rw [Nat.mul_add, Nat.mul_one, Nat.mul_left_comm, Nat.mul_comm b a] at h3
        rw [Nat.pow_succ] at hf
        omega
      have hf1 : 1 ≤ f := by
        rcases f with _ | f
        · have h2 := Nat.mul_le_mul (show 2 ≤ a by omega) hb0
          simp at hf
          omega
        · omega
      refine ivN_ok hp f b (a % b) y (x + a / b * y) (!s) (by omega) hhalf hf1 ?_ ?_ (by omega) c2 ?_
      · rw [Nat.gcd_comm, ← Nat.gcd_rec, Nat.gcd_comm]; exact hg
      · rw [Nat.mul_add, ← hs]
        have e : b * (a / b * y) + a % b * y = a * y := by rw [← Nat.mul_assoc, ← Nat.add_mul, hd]
        omega
      · rw [Bool.not_not, sgI_add]
        have e : ((a % b : Nat) : Int) = (a : Int) - b * ((a / b : Nat) : Int) := by rw [← Int.natCast_mul]; omega
        rw [e]
        refine (c1.sub (c2.mulR _)).trans (cg.of_eq ?_)
        rw [sgI_not, Int.add_mul, Int.neg_mul, Int.neg_mul, Int.sub_neg, Int.mul_comm ((a / b : Nat) : Int), Int.mul_assoc, Int.mul_assoc, Int.mul_comm (n : Int)]
theorem ivN_all {p n : Nat} (h : primeB (p : Int) = true) (h1 : 0 < n) (h2 : n < p) : ∃ r, ivN 30 n p 1 0 true = some r ∧ cg (p : Int) (r * n) 1 := by
  have hr := primeB_range h
  rw [ivN]
  by_cases hn1 : n ≤ 1
  · rw [Nat.ble_eq_true_of_le hn1, cond_true]
    exact ⟨_, rfl, cg.of_eq (by rw [show n = 1 by omega]; rfl)⟩
  · have n1 : Nat.ble n 1 = false := by
      cases hb : Nat.ble n 1
      · rfl
      · exact absurd (Nat.le_of_ble_eq_true hb) hn1
    rw [n1, cond_false, blt_pos (show 0 < p by omega), Nat.ble_eq_true_of_le (show p ≤ 10007 by omega), Nat.ble_eq_true_of_le (show n ≤ 10007 by omega), Nat.ble_eq_true_of_le (show 1 ≤ 100000 by omega), Nat.ble_eq_true_of_le (show 0 ≤ 100000 by omega), Bool.and_true, Bool.and_true, Bool.and_true, Bool.and_true, cond_true, Nat.mod_eq_of_lt h2, Nat.div_eq_of_lt h2, Nat.zero_mul, Nat.add_zero]
    have hc : Nat.gcd p n = 1 := prB_cop h h1 h2
    have hm := Nat.mul_le_mul (show p ≤ 10007 by omega) (show n ≤ 10007 by omega)
    refine ivN_ok (by omega) 29 p n 0 1 (!true) (by omega) (by omega) (by omega) hc (by omega) (by omega) ?_ ?_
    · exact ⟨1, by simp [sgI]⟩
    · exact cg.of_eq (by simp [sgI])
theorem inv_all {p x : Int} (h : primeB p = true) (h1 : 0 < x) (h2 : x < p) : (∃ r, ivR 30 x p 1 0 = some r) ∧ ivE x p = ivO x p ∧ (0 ≤ ivO x p ∧ ivO x p < p) ∧ x * ivO x p % p = 1 := by
  have hr := primeB_range h
  obtain ⟨q, rfl⟩ : ∃ q : Nat, p = q := ⟨p.toNat, by omega⟩
  obtain ⟨n, rfl⟩ : ∃ n : Nat, x = n := ⟨x.toNat, by omega⟩
  obtain ⟨r, e1, e2⟩ := ivN_all h (show 0 < n by omega) (show n < q by omega)
  have e3 : ivR 30 (n : Int) q 1 0 = some r := ivN_R e1
  have hE : ivE n q = r % q := by rw [ivE, e3]
  have hnm : (n : Int) % (q : Int) = n := Int.emod_eq_of_lt (by omega) h2
  have hO : ivO n q = ((n ^ (q - 2) % q : Nat) : Int) := by
    rw [ivO, h, hnm, if_neg (by simp; omega)]
    by_cases e : (q : Int) = 2
    · rw [if_pos e, show q = 2 by omega, show n = 1 by omega]
      rfl
    · rw [if_neg e, show ((q : Int) - 2) = ((q - 2 : Nat) : Int) by omega, show (1 : Int) = ((1 : Nat) : Int) from rfl, pwR_C, pwC_is 14 n (q - 2) 1 (by omega) (by omega), Nat.one_mul]
      show (((n ^ (q - 2) % q) % q : Nat) : Int) = _
      rw [Nat.mod_mod]
  have hOr : 0 ≤ ivO n q ∧ ivO n q < q := by
    rw [hO]
    exact ⟨by omega, by have := Nat.mod_lt (n ^ (q - 2)) (show 0 < q by omega); omega⟩
  have hOi : (n : Int) * ivO n q % q = 1 := by
    rw [hO, ← Int.natCast_mul]
    show ((n * (n ^ (q - 2) % q) % q : Nat) : Int) = 1
    rw [Nat.mul_mod, Nat.mod_mod, ← Nat.mul_mod, Nat.mul_comm, ← Nat.pow_succ, show (q - 2).succ = q - 1 by omega, fermat h (by omega) (by omega)]
    rfl
  refine ⟨⟨r, e3⟩, ?_, hOr, hOi⟩
  rw [hE]
  refine cg.eq ?_ ⟨Int.emod_nonneg _ (by omega), Int.emod_lt_of_pos _ (by omega)⟩ hOr
  -- r = r (n o) = (r n) o = o
  have a1 : cg (q : Int) ((n : Int) * ivO n q) 1 := hOi ▸ (cg.emod _).symm
  have a2 := (a1.mulL r).symm
  rw [Int.mul_one, ← Int.mul_assoc] at a2
  have a3 := e2.mulR (ivO n q)
  rw [Int.one_mul] at a3
  exact (cg.emod r).trans (a2.trans a3)
end Go.Proofs.Ytbmnnbglipkidaa
