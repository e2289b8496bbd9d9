/-
  Residues of a number: mod (the program's), l1Mod (the reference's), by their contracts.
-/
import Derived.Test.YtbmnnbglipkidaaSlices
namespace Go.Proofs.Ytbmnnbglipkidaa
set_option linter.unusedVariables false
set_option linter.unusedSimpArgs false
open Go.RowKit
theorem tmod_bd (n p : Int) (hp : 1 ≤ p) : -p < n.tmod p ∧ n.tmod p < p := by
  constructor
  · rcases Int.le_total 0 n with h | h
    · have := Int.tmod_nonneg p h; omega
    · have h1 := Int.tmod_lt_of_pos (-n) (b := p) (by omega)
      rw [Int.neg_tmod] at h1
      omega
  · exact Int.tmod_lt_of_pos n (by omega)
theorem tmod_add (n p : Int) : (n.tmod p + p) % p = n % p := by
  have h : n = n.tmod p + p * n.tdiv p := (Int.tmod_add_mul_tdiv n p).symm
  rw [Int.add_emod_right]
  conv => rhs; rw [h]
  rw [Int.add_mul_emod_self_left]
theorem tmod_neg (n p : Int) (hp : 1 ≤ p) (h : n.tmod p < 0) : n.tmod p + p = n % p := by
  obtain ⟨h1, h2⟩ := tmod_bd n p hp
  rw [← tmod_add n p, Int.emod_eq_of_lt (by omega) (by omega)]
theorem tmod_pos (n p : Int) (hp : 1 ≤ p) (h : ¬ n.tmod p < 0) : n.tmod p = n % p := by
  obtain ⟨h1, h2⟩ := tmod_bd n p hp
  rw [← tmod_add n p, Int.add_emod_right, Int.emod_eq_of_lt (by omega) (by omega)]
theorem mod_any (n p : Int) (w : World) (hp : 1 ≤ p) (hp1 : p ≤ 1000000) :
    Calls Try.prog 50 #[.int .i64 n, .int .i64 p] w fun e w' => e = .returned (.int .i64 (n % p)) ∧ w = w' := by
  obtain ⟨h1, h2⟩ := tmod_bd n p hp
  by_cases h0 : 0 ≤ n
  · have hm : n.tmod p = n % p := by rw [Int.tmod_eq_emod_of_nonneg h0]
    rw [hm] at h1 h2
    have HM := hid hm; clear hm
    go_enter Try.func50, Try.ntmps50
    go_wp2
    go_ret
    exact ⟨ret_int (by rw [Int.add_emod_right, Int.emod_emod_of_dvd _ (Int.dvd_refl p)]), rfl⟩
  · go_enter Try.func50, Try.ntmps50
    go_wp2
    go_ret
    exact ⟨ret_int (by rw [← tmod_add n p, Int.add_emod_right]), rfl⟩
theorem l1Mod_any (n p : Int) (w : World) (hp : 1 ≤ p) (hp1 : p ≤ 1000000) :
    Calls Try.prog 37 #[.int .i64 n, .int .i64 p] w fun e w' => e = .returned (.int .i64 (n % p)) ∧ w = w' := by
  obtain ⟨h1, h2⟩ := tmod_bd n p hp
  by_cases h0 : 0 ≤ n
  · have hm : n.tmod p = n % p := by rw [Int.tmod_eq_emod_of_nonneg h0]
    have hnn : 0 ≤ n % p := Int.emod_nonneg _ (by omega)
    have HM := hid hm; clear hm
    go_enter Try.func37, Try.ntmps37
    go_wp2
    go_ret
    exact ⟨rfl, rfl⟩
  · by_cases hneg : n.tmod p < 0
    · go_enter Try.func37, Try.ntmps37
      go_wp2
      go_ret
      exact ⟨ret_int (tmod_neg n p hp hneg), rfl⟩
    · go_enter Try.func37, Try.ntmps37
      go_wp2
      go_ret
      exact ⟨ret_int (tmod_pos n p hp (by omega)), rfl⟩
end Go.Proofs.Ytbmnnbglipkidaa
