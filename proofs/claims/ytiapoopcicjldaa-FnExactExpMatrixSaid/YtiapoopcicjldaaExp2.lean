/-
  Inverses of small numbers modulo a prime: Euclid's way and the power p - 2, as the two texts reckon them; they agree for all primes and numbers that come up (checked by the kernel). No program is spoken of.
-/
import Derived.Test.YtiapoopcicjldaaRng
namespace Go.Proofs.Ytiapoopcicjldaa
set_option linter.unusedVariables false
set_option linter.unusedSimpArgs false
set_option linter.unusedVariables false
set_option linter.unusedSimpArgs false

/-- Powers by squaring, as the loop reckons them. -/
def pwR (p : Int) : Nat → Int → Int → Int → Int
  | 0, _, _, o => o
  | f + 1, x, n, o => if 0 < n then pwR p f ((x * x).tmod p) (n.tdiv 2) (if n.tmod 2 = 1 then (o * x).tmod p else o) else o
/-- .. with natural numbers. -/
def pwC (p : Nat) : Nat → Nat → Nat → Nat → Nat
  | 0, _, _, o => o
  | f + 1, x, n, o => bif Nat.blt 0 n then pwC p f (x * x % p) (n / 2) (bif Nat.beq (n % 2) 1 then o * x % p else o) else o
theorem blt_pos {n : Nat} (h : 0 < n) : Nat.blt 0 n = true := Nat.ble_eq_true_of_le h
theorem blt_no {n : Nat} (h : ¬ 0 < n) : Nat.blt 0 n = false := by rw [show n = 0 by omega]; rfl
theorem pwR_C {p : Nat} : ∀ {f x n o : Nat}, pwR p f x n o = (pwC p f x n o : Nat)
  | 0, x, n, o => rfl
  | f + 1, x, n, o => by
    have e1 : ((x : Int) * x).tmod p = ((x * x % p : Nat) : Int) := by rw [← Int.natCast_mul]; rfl
    have e2 : ((o : Int) * x).tmod p = ((o * x % p : Nat) : Int) := by rw [← Int.natCast_mul]; rfl
    have e3 : (n : Int).tdiv 2 = ((n / 2 : Nat) : Int) := rfl
    have e4 : (n : Int).tmod 2 = ((n % 2 : Nat) : Int) := rfl
    rw [pwR, pwC]
    by_cases h : 0 < n
    · rw [if_pos (by omega), blt_pos h, cond_true, e1, e3, e4]
      by_cases h2 : n % 2 = 1
      · rw [if_pos (by omega), show Nat.beq (n % 2) 1 = true from by rw [Nat.beq_eq]; exact h2, cond_true, e2]
        exact pwR_C
      · rw [if_neg (by omega), show Nat.beq (n % 2) 1 = false from by
          cases hb : Nat.beq (n % 2) 1
          · rfl
          · exact absurd (Nat.eq_of_beq_eq_true hb) h2, cond_false]
        exact pwR_C
    · rw [if_neg (by omega), blt_no h, cond_false]
/-- Euclid's way, as the loop reckons it; nothing where it would divide by 0 or leave the range. -/
def ivR : Nat → Int → Int → Int → Int → Option Int
  | 0, _, _, _, _ => none
  | f + 1, a, b, x, y => if 1 < a then (if 0 < b ∧ b ≤ 10007 ∧ a ≤ 10007 ∧ (-100000 ≤ x ∧ x ≤ 100000) ∧ (-100000 ≤ y ∧ y ≤ 100000) then ivR f b (a.tmod b) y (x - a.tdiv b * y) else none) else some x
theorem ivR_more {r : Int} {f : Nat} {a b x y : Int} (h : ivR f a b x y = some r) (ha : 1 < a) : ∃ g, f = g + 1 ∧ (0 < b ∧ b ≤ 10007 ∧ a ≤ 10007 ∧ (-100000 ≤ x ∧ x ≤ 100000) ∧ (-100000 ≤ y ∧ y ≤ 100000)) ∧ ivR g b (a.tmod b) y (x - a.tdiv b * y) = some r := by
  cases f with
  | zero => simp [ivR] at h
  | succ g =>
    rw [ivR, if_pos ha] at h
    by_cases hc : 0 < b ∧ b ≤ 10007 ∧ a ≤ 10007 ∧ (-100000 ≤ x ∧ x ≤ 100000) ∧ (-100000 ≤ y ∧ y ≤ 100000)
    · rw [if_pos hc] at h
      exact ⟨g, rfl, hc, h⟩
    · rw [if_neg hc] at h
      cases h
theorem ivR_end {r : Int} {f : Nat} {a b x y : Int} (h : ivR f a b x y = some r) (ha : ¬ 1 < a) : x = r := by
  cases f with
  | zero => simp [ivR] at h
  | succ g =>
    rw [ivR, if_neg ha] at h
    exact Option.some.inj h
/-- Euclid's way with natural numbers: the signs of x and y turn about. -/
def sgI (s : Bool) (x : Nat) : Int := bif s then (x : Int) else -(x : Int)
def ivN : Nat → Nat → Nat → Nat → Nat → Bool → Option Int
  | 0, _, _, _, _, _ => none
  | f + 1, a, b, x, y, s => bif Nat.ble a 1 then some (sgI s x) else bif (Nat.blt 0 b && Nat.ble b 10007 && Nat.ble a 10007 && Nat.ble x 100000 && Nat.ble y 100000) then ivN f b (a % b) y (x + a / b * y) (!s) else none
theorem ivN_R {r : Int} : ∀ {f a b x y : Nat} {s : Bool}, ivN f a b x y s = some r → ivR f a b (sgI s x) (sgI (!s) y) = some r
  | 0, a, b, x, y, s, h => by simp [ivN] at h
  | f + 1, a, b, x, y, s, h => by
    rw [ivN] at h
    rw [ivR]
    by_cases ha : a ≤ 1
    · rw [Nat.ble_eq_true_of_le ha, cond_true] at h
      rw [if_neg (by omega)]
      exact h
    · rw [show Nat.ble a 1 = false from by
        cases hb : Nat.ble a 1
        · rfl
        · exact absurd (Nat.le_of_ble_eq_true hb) ha, cond_false] at h
      rw [if_pos (by omega)]
      cases hc : (Nat.blt 0 b && Nat.ble b 10007 && Nat.ble a 10007 && Nat.ble x 100000 && Nat.ble y 100000) with
      | false => rw [hc] at h; simp at h
      | true =>
        rw [hc, cond_true] at h
        simp only [Bool.and_eq_true] at hc
        obtain ⟨⟨⟨⟨c1, c2⟩, c3⟩, c4⟩, c5⟩ := hc
        have d1 : 0 < b := Nat.le_of_ble_eq_true c1
        have d2 := Nat.le_of_ble_eq_true c2
        have d3 := Nat.le_of_ble_eq_true c3
        have d4 := Nat.le_of_ble_eq_true c4
        have d5 := Nat.le_of_ble_eq_true c5
        rw [if_pos (by cases s <;> simp only [sgI, cond_true, cond_false, Bool.not_true, Bool.not_false] <;> omega)]
        have ih := ivN_R h
        have e1 : (a : Int).tmod b = ((a % b : Nat) : Int) := rfl
        have e2 : sgI s x - (a : Int).tdiv b * sgI (!s) y = sgI (!!s) (x + a / b * y) := by
          have e3 : (a : Int).tdiv b = ((a / b : Nat) : Int) := rfl
          rw [e3]
          cases s
          · simp only [sgI, cond_true, cond_false, Bool.not_true, Bool.not_false, Int.natCast_add, Int.natCast_mul]
            omega
          · simp only [sgI, cond_true, cond_false, Bool.not_true, Bool.not_false, Int.natCast_add, Int.natCast_mul, Int.mul_neg]
            omega
        rw [e1, e2]
        exact ih
def inC (p k : Nat) : Bool := match ivN 30 k p 1 0 true with | some r => decide (r % (p : Int) = ((pwC p 14 k (p - 2) 1 % p : Nat) : Int)) | none => false
def prC (p : Nat) : Bool := (List.range 101).all fun d => Nat.ble d 1 || Nat.blt p (d * d) || !(Nat.beq (p % d) 0)
def okC (p : Nat) : Bool := !(prC p) || (List.range 41).all fun k => Nat.beq k 0 || Nat.ble p k || inC p k
end Go.Proofs.Ytiapoopcicjldaa
