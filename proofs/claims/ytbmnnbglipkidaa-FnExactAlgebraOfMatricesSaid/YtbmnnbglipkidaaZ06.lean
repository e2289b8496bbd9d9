/-
  Products of square matrices over a field, entry by entry: associative, distributive over sums, traces, transposed ones. No program is spoken of.
-/
import Derived.Test.YtbmnnbglipkidaaMul
namespace Go.Proofs.Ytbmnnbglipkidaa
set_option linter.unusedVariables false
set_option linter.unusedSimpArgs false
set_option linter.unusedVariables false
set_option linter.unusedSimpArgs false
def sumN (f : Nat → Int) : Nat → Int
  | 0 => 0
  | m + 1 => sumN f m + f m
theorem addF_at {k p : Int} : ∀ {x y : List Int} {q : Nat}, x.length = y.length → q < x.length → (addF k p x y).getD q 0 = (x.getD q 0 + k * y.getD q 0) % p
  | [], _, _, _, h => by simp at h
  | _ :: _, [], _, h, _ => by simp at h
  | a :: x, b :: y, 0, _, _ => rfl
  | a :: x, b :: y, q + 1, h, hq => by
    have := addF_at (k := k) (p := p) (x := x) (y := y) (q := q) (by simpa using h) (by simpa using hq)
    simpa [addF, List.getD] using this
theorem addF_rg {k p : Int} (hp : 0 < p) : ∀ {x y : List Int}, Rg p x → Rg p (addF k p x y)
  | [], [], h => h
  | [], _ :: _, h => h
  | a :: x, [], h => by rw [addF_nil]; exact h
  | a :: x, b :: y, h => by
    have hx : Rg p x := fun i => by have := h (i + 1); simpa [List.getD] using this
    have ih := addF_rg (k := k) hp (x := x) (y := y) hx
    intro i
    cases i with
    | zero => exact ⟨Int.emod_nonneg _ (by omega), Int.emod_lt_of_pos _ hp⟩
    | succ i => have := ih i; simpa [addF, List.getD] using this
end Go.Proofs.Ytbmnnbglipkidaa

namespace Go.Proofs.Ytbmnnbglipkidaa
set_option linter.unusedVariables false
set_option linter.unusedSimpArgs false
set_option linter.unusedVariables false
set_option linter.unusedSimpArgs false
def trS (n : Int) (d : List Int) (i : Nat) : Int := sumN (fun i => d.getD ((i : Int) * n + (i : Int)).toNat 0) i
def trI (p n : Int) (d : List Int) : Int := trS n d n.toNat % p
def tpR (r c : Int) (d : List Int) (i : Nat) (o : List Int) (j : Nat) : List Int := o.set ((j : Int) * r + (i : Int)).toNat (d.getD ((i : Int) * c + (j : Int)).toNat 0)
def tpG (r c : Int) (d : List Int) (o : List Int) (i : Nat) : List Int := (List.range c.toNat).foldl (tpR r c d i) o
def tpI (r c : Int) (d : List Int) : List Int := (List.range r.toNat).foldl (tpG r c d) (List.replicate (c * r).toNat 0)
structure RgLaw (p : Int) (n : Nat) (a b c : List Int) : Prop where
  oka : matOkB ⟨p, n, n, a⟩ = true
  okb : matOkB ⟨p, n, n, b⟩ = true
  okc : matOkB ⟨p, n, n, c⟩ = true
  okab : matOkB ⟨p, n, n, mulF p n n n a b⟩ = true
  okba : matOkB ⟨p, n, n, mulF p n n n b a⟩ = true
  okbc : matOkB ⟨p, n, n, mulF p n n n b c⟩ = true
  okac : matOkB ⟨p, n, n, mulF p n n n a c⟩ = true
  oks : matOkB ⟨p, n, n, addF 1 p b c⟩ = true
  okta : matOkB ⟨p, n, n, tpI n n a⟩ = true
  oktb : matOkB ⟨p, n, n, tpI n n b⟩ = true
  assoc : samB (mulF p n n n (mulF p n n n a b) c) (mulF p n n n a (mulF p n n n b c)) = true
  dist : samB (mulF p n n n a (addF 1 p b c)) (addF 1 p (mulF p n n n a b) (mulF p n n n a c)) = true
  tr : trI p n (mulF p n n n a b) = trI p n (mulF p n n n b a)
  tp : samB (tpI n n (mulF p n n n a b)) (mulF p n n n (tpI n n b) (tpI n n a)) = true
  small : ∀ d : List Int, (d = mulF p n n n (mulF p n n n a b) c ∨ d = mulF p n n n a (addF 1 p b c) ∨ d = tpI n n (mulF p n n n a b)) → d.length ≤ 1600
end Go.Proofs.Ytbmnnbglipkidaa

namespace Go.Proofs.Ytbmnnbglipkidaa
set_option linter.unusedVariables false
set_option linter.unusedSimpArgs false
set_option linter.unusedVariables false
set_option linter.unusedSimpArgs false
def pwR (p : Int) : Nat → Int → Int → Int → Int
  | 0, _, _, o => o
  | f + 1, x, n, o => if 0 < n then pwR p f ((x * x).tmod p) (n.tdiv 2) (if n.tmod 2 = 1 then (o * x).tmod p else o) else o
def pwC (p : Nat) : Nat → Nat → Nat → Nat → Nat
  | 0, _, _, o => o
  | f + 1, x, n, o => bif Nat.blt 0 n then pwC p f (x * x % p) (n / 2) (bif Nat.beq (n % 2) 1 then o * x % p else o) else o
theorem blt_pos {n : Nat} (h : 0 < n) : Nat.blt 0 n = true := Nat.ble_eq_true_of_le h
theorem blt_no {n : Nat} (h : ¬ 0 < n) : Nat.blt 0 n = false := by rw [show n = 0 by omega]; rfl
theorem pwR_C {p : Nat} : ∀ {f x n o : Nat}, pwR p f x n o = (pwC p f x n o : Nat)
  | 0, x, n, o => rfl
  | f + 1, x, n, o => by
    have e1 : ((x : Int) * x).tmod p = ((x * x % p : Nat) : Int) := by rw [← Int.natCast_mul]; rfl
    have e2 : ((o : Int) * x).tmod p = ((o * x % p : Nat) : Int) := by rw [← Int.natCast_mul]; rfl
    have e3 : (n : Int).tdiv 2 = ((n / 2 : Nat) : Int) := rfl
    have e4 : (n : Int).tmod 2 = ((n % 2 : Nat) : Int) := rfl
    rw [pwR, pwC]
    by_cases h : 0 < n
    · rw [if_pos (by omega), blt_pos h, cond_true, e1, e3, e4]
      by_cases h2 : n % 2 = 1
      · rw [if_pos (by omega), show Nat.beq (n % 2) 1 = true from by rw [Nat.beq_eq]; exact h2, cond_true, e2]
        exact pwR_C
      · rw [if_neg (by omega), show Nat.beq (n % 2) 1 = false from by
          cases hb : Nat.beq (n % 2) 1
          · rfl
          · exact absurd (Nat.eq_of_beq_eq_true hb) h2, cond_false]
        exact pwR_C
    · rw [if_neg (by omega), blt_no h, cond_false]
def ivR : Nat → Int → Int → Int → Int → Option Int
  | 0, _, _, _, _ => none
  | f + 1, a, b, x, y => if 1 < a then (if 0 < b ∧ b ≤ 10007 ∧ a ≤ 10007 ∧ (-100000 ≤ x ∧ x ≤ 100000) ∧ (-100000 ≤ y ∧ y ≤ 100000) then ivR f b (a.tmod b) y (x - a.tdiv b * y) else none) else some x
theorem ivR_more {r : Int} {f : Nat} {a b x y : Int} (h : ivR f a b x y = some r) (ha : 1 < a) : ∃ g, f = g + 1 ∧ (0 < b ∧ b ≤ 10007 ∧ a ≤ 10007 ∧ (-100000 ≤ x ∧ x ≤ 100000) ∧ (-100000 ≤ y ∧ y ≤ 100000)) ∧ ivR g b (a.tmod b) y (x - a.tdiv b * y) = some r := by
  cases f with
  | zero => simp [ivR] at h
  | succ g =>
    rw [ivR, if_pos ha] at h
    by_cases hc : 0 < b ∧ b ≤ 10007 ∧ a ≤ 10007 ∧ (-100000 ≤ x ∧ x ≤ 100000) ∧ (-100000 ≤ y ∧ y ≤ 100000)
    · rw [if_pos hc] at h
      exact ⟨g, rfl, hc, h⟩
    · rw [if_neg hc] at h
      cases h
theorem ivR_end {r : Int} {f : Nat} {a b x y : Int} (h : ivR f a b x y = some r) (ha : ¬ 1 < a) : x = r := by
  cases f with
  | zero => simp [ivR] at h
  | succ g =>
    rw [ivR, if_neg ha] at h
    exact Option.some.inj h
def sgI (s : Bool) (x : Nat) : Int := bif s then (x : Int) else -(x : Int)
def ivN : Nat → Nat → Nat → Nat → Nat → Bool → Option Int
  | 0, _, _, _, _, _ => none
  | f + 1, a, b, x, y, s => bif Nat.ble a 1 then some (sgI s x) else bif (Nat.blt 0 b && Nat.ble b 10007 && Nat.ble a 10007 && Nat.ble x 100000 && Nat.ble y 100000) then ivN f b (a % b) y (x + a / b * y) (!s) else none
theorem ivN_R {r : Int} : ∀ {f a b x y : Nat} {s : Bool}, ivN f a b x y s = some r → ivR f a b (sgI s x) (sgI (!s) y) = some r
  | 0, a, b, x, y, s, h => by simp [ivN] at h
  | f + 1, a, b, x, y, s, h => by
    rw [ivN] at h
    rw [ivR]
    by_cases ha : a ≤ 1
    · rw [Nat.ble_eq_true_of_le ha, cond_true] at h
      rw [if_neg (by omega)]
      exact h
    · rw [show Nat.ble a 1 = false from by
        cases hb : Nat.ble a 1
        · rfl
        · exact absurd (Nat.le_of_ble_eq_true hb) ha, cond_false] at h
      rw [if_pos (by omega)]
      cases hc : (Nat.blt 0 b && Nat.ble b 10007 && Nat.ble a 10007 && Nat.ble x 100000 && Nat.ble y 100000) with
      | false => rw [hc] at h; simp at h
      | true =>
        rw [hc, cond_true] at h
        simp only [Bool.and_eq_true] at hc
        obtain ⟨⟨⟨⟨c1, c2⟩, c3⟩, c4⟩, c5⟩ := hc
        have d1 : 0 < b := Nat.le_of_ble_eq_true c1
        have d2 := Nat.le_of_ble_eq_true c2
        have d3 := Nat.le_of_ble_eq_true c3
        have d4 := Nat.le_of_ble_eq_true c4
        have d5 := Nat.le_of_ble_eq_true c5
        rw [if_pos (by cases s <;> simp only [sgI, cond_true, cond_false, Bool.not_true, Bool.not_false] <;> omega)]
        have ih := ivN_R h
        have e1 : (a : Int).tmod b = ((a % b : Nat) : Int) := rfl
        have e2 : sgI s x - (a : Int).tdiv b * sgI (!s) y = sgI (!!s) (x + a / b * y) := by
          have e3 : (a : Int).tdiv b = ((a / b : Nat) : Int) := rfl
          rw [e3]
          cases s
          · simp only [sgI, cond_true, cond_false, Bool.not_true, Bool.not_false, Int.natCast_add, Int.natCast_mul]
            omega
          · simp only [sgI, cond_true, cond_false, Bool.not_true, Bool.not_false, Int.natCast_add, Int.natCast_mul, Int.mul_neg]
            omega
        rw [e1, e2]
        exact ih
end Go.Proofs.Ytbmnnbglipkidaa
