/-
  The unit matrix, powers, and when they vanish, as the code reckons them.
-/
import Derived.Test.YtbmnnbglipkidaaZ06
import Derived.Test.YtbmnnbglipkidaaMod
namespace Go.Proofs.Ytbmnnbglipkidaa
set_option linter.unusedVariables false
set_option linter.unusedSimpArgs false
set_option linter.unusedVariables false
set_option linter.unusedSimpArgs false
def ivE (n p : Int) : Int := match ivR 30 n p 1 0 with | some r => r % p | none => 0
theorem tdiv_le2 {a b : Int} (ha : 0 ≤ a ∧ a ≤ 10007) (hb : 0 < b) : 0 ≤ a.tdiv b ∧ a.tdiv b ≤ 10007 := by
  rw [Int.tdiv_eq_ediv_of_nonneg ha.1]
  exact ⟨Int.ediv_nonneg ha.1 (by omega), Int.le_trans (Int.ediv_le_self b ha.1) ha.2⟩
theorem mul_ab2 {a y : Int} (ha : 0 ≤ a ∧ a ≤ 10007) (hy : -100000 ≤ y ∧ y ≤ 100000) : -(10007 * 100000) ≤ a * y ∧ a * y ≤ 10007 * 100000 := by
  rcases Int.le_total 0 y with h | h
  · have := mulBd (A := 10007) (B := 100000) ha ⟨h, hy.2⟩
    omega
  · have := mulBd (A := 10007) (B := 100000) (b := -y) ha ⟨by omega, by omega⟩
    rw [Int.mul_neg] at this
    omega
theorem pw_more {f : Nat} {b : Int} (h : 0 ≤ b ∧ b < 2 ^ f) (hb : 0 < b) : ∃ g, f = g + 1 := by
  cases f with
  | zero => exfalso; have := h.2; simp at this; omega
  | succ g => exact ⟨g, rfl⟩
theorem pw_half {g : Nat} {b : Int} (h : 0 ≤ b ∧ b < 2 ^ (g + 1)) (hb : 0 < b) : 0 ≤ b.tdiv 2 ∧ b.tdiv 2 < 2 ^ g := by
  rw [Int.tdiv_eq_ediv_of_nonneg h.1]
  have := h.2
  rw [Int.pow_succ] at this
  omega
theorem tdiv_half {b : Int} (h : 0 ≤ b) : 0 ≤ b.tdiv 2 ∧ b.tdiv 2 ≤ b := by rw [Int.tdiv_eq_ediv_of_nonneg h]; omega
theorem tm_rg {p x : Int} {q : Int} (h : 0 ≤ x ∧ x ≤ q) (hp : 0 < p := by omega) : 0 ≤ x.tmod p ∧ x.tmod p < p := ⟨Int.tmod_nonneg _ h.1, Int.tmod_lt_of_pos _ hp⟩
theorem pwR_end {p x o n : Int} {f : Nat} (h : ¬ 0 < n) : pwR p f x n o = o := by
  cases f with
  | zero => rfl
  | succ g => rw [pwR, if_neg h]
theorem pwR_odd {p x o n : Int} {f : Nat} (h : 0 < n) (h2 : n.tmod 2 = 1) : pwR p (f + 1) x n o = pwR p f ((x * x).tmod p) (n.tdiv 2) ((o * x).tmod p) := by rw [pwR, if_pos h, if_pos h2]
theorem pwR_even {p x o n : Int} {f : Nat} (h : 0 < n) (h2 : n.tmod 2 ≠ 1) : pwR p (f + 1) x n o = pwR p f ((x * x).tmod p) (n.tdiv 2) o := by rw [pwR, if_pos h, if_neg h2]
def ivO (n p : Int) : Int := if primeB p = false ∨ n % p = 0 then 0 else if p = 2 then 1 else (pwR p 14 (n % p) (p - 2) 1).tmod p
theorem ivO_0 {n p : Int} (hp : primeB p = true) (h : n % p = 0) : ivO n p = 0 := if_pos (.inr h)
theorem ivO_1 {n p : Int} (hp : primeB p = true) (h : n % p ≠ 0) (h2 : p = 2) : ivO n p = 1 := by rw [ivO, if_neg (by simp [hp, h]), if_pos h2]
theorem ivO_2 {n p : Int} (hp : primeB p = true) (h : n % p ≠ 0) (h2 : p ≠ 2) : ivO n p = (pwR p 14 (n % p) (p - 2) 1).tmod p := by rw [ivO, if_neg (by simp [hp, h]), if_neg h2]
end Go.Proofs.Ytbmnnbglipkidaa

namespace Go.Proofs.Ytbmnnbglipkidaa
set_option linter.unusedVariables false
set_option linter.unusedSimpArgs false
open Go.RowKit
set_option linter.unusedVariables false
set_option linter.unusedSimpArgs false
theorem tm_le {a b : Int} (ha : 0 ≤ a) (hb : 0 < b) : 0 ≤ a.tmod b ∧ a.tmod b < b := ⟨Int.tmod_nonneg _ ha, Int.tmod_lt_of_pos _ hb⟩
theorem inverse_any (n p r : Int) (w : World) (hp : 1 ≤ p) (hp1 : p ≤ 10007) (hn : 0 ≤ n) (h0 : ivR 30 n p 1 0 = some r) :
    Calls Try.prog 61 #[.int .i64 n, .int .i64 p] w fun e w' => e = .returned (.int .i64 (r % p)) ∧ Below w.heap.size w w' := by
  go_enter Try.func61, Try.ntmps61
  go_wp2
  go_loopw [5, 6, 7, 8] (fun va vb vx vy wr => ∃ (f : Nat) (a b x y : Int), va = .int .i64 a ∧ vb = .int .i64 b ∧ vx = .int .i64 x ∧ vy = .int .i64 y ∧ 0 ≤ a ∧ 0 ≤ b ∧ ivR f a b x y = some r ∧ Below w.heap.size w wr) (fun _ vb _ _ _ => (intOf vb).natAbs)
  case atStart => exact ⟨30, n, p, 1, 0, rfl, rfl, rfl, rfl, hn, by omega, h0, Below.refl _ _⟩
  case round =>
    obtain ⟨f, a, b, x, y, rfl, rfl, rfl, rfl, ha, hb, hr, hal⟩ := hrel
    by_cases h1 : 1 < a
    · obtain ⟨g, rfl, hrg, hr2⟩ := ivR_more hr h1
      have hqb : 0 ≤ a.tdiv b ∧ a.tdiv b ≤ 10007 := tdiv_le2 (by omega) (by omega)
      have hmm : -(10007 * 100000) ≤ a.tdiv b * y ∧ a.tdiv b * y ≤ 10007 * 100000 := mul_ab2 hqb (by omega)
      have htm := tm_le ha hrg.1
      have hte : a.tmod b = a % b := Int.tmod_eq_emod_of_nonneg ha
      rw [hte] at hr2 htm
      have hb0 : ¬ b = 0 := by omega
      have hw1 : IntKind.i64.wrap (a.tdiv b) = a.tdiv b := wrap_in (by omega) (by omega)
      have hw2 : IntKind.i64.wrap (a.tdiv b * y) = a.tdiv b * y := wrap_in (by omega) (by omega)
      have hw3 : IntKind.i64.wrap (x - a.tdiv b * y) = x - a.tdiv b * y := wrap_in (by omega) (by omega)
      go_wp2
      go_region
      all_goals (try go_wp2)
      all_goals (
        go_roundw
        case rel => exact ⟨g, b, a % b, y, x - a.tdiv b * y, rfl, rfl, rfl, rfl, hb, htm.1, hr2, hal.drew⟩
        case measure => simp [intOf]; omega)
    · have hxr := ivR_end hr h1
      subst hxr
      obtain ⟨hb1, hb2⟩ := tmod_bd x p hp
      have hq : 0 ≤ x.tmod p + p := by omega
      have hq2 : x.tmod p + p ≤ 20014 := by omega
      go_wp2
      all_goals (
        go_ret
        refine ⟨ret_int ?_, hal⟩
        first | exact tmod_add x p | (rw [← tmod_add x p, Int.add_emod_right]; done) | (rw [Int.tmod_eq_emod_of_nonneg hq]; exact tmod_add x p) | (rw [wrap_in (by omega) (by omega), Int.tmod_eq_emod_of_nonneg hq]; exact tmod_add x p))
end Go.Proofs.Ytbmnnbglipkidaa
