/-
  Euclid's way to an inverse (the program's): a contract.
-/
import Derived.Test.YtiapoopcicjldaaExv
import Derived.Test.YtiapoopcicjldaaMod
namespace Go.Proofs.Ytiapoopcicjldaa
set_option linter.unusedVariables false
set_option linter.unusedSimpArgs false
open Go.RowKit
set_option linter.unusedVariables false
set_option linter.unusedSimpArgs false

theorem tm_le {a b : Int} (ha : 0 ≤ a) (hb : 0 < b) : 0 ≤ a.tmod b ∧ a.tmod b < b := ⟨Int.tmod_nonneg _ ha, Int.tmod_lt_of_pos _ hb⟩
theorem inverse_any (n p r : Int) (w : World) (hp : 1 ≤ p) (hp1 : p ≤ 10007) (hn : 0 ≤ n) (h0 : ivR 30 n p 1 0 = some r) :
    Calls Try.prog 74 #[.int .i64 n, .int .i64 p] w fun e w' => e = .returned (.int .i64 (r % p)) ∧ Below w.heap.size w w' := by
  go_enter Try.func74, Try.ntmps74
  go_wp2
  go_loopw [5, 6, 7, 8] (fun va vb vx vy wr => ∃ (f : Nat) (a b x y : Int), va = .int .i64 a ∧ vb = .int .i64 b ∧ vx = .int .i64 x ∧ vy = .int .i64 y ∧ 0 ≤ a ∧ 0 ≤ b ∧ ivR f a b x y = some r ∧ Below w.heap.size w wr) (fun _ vb _ _ _ => (intOf vb).natAbs)
  case atStart => exact ⟨30, n, p, 1, 0, rfl, rfl, rfl, rfl, hn, by omega, h0, Below.refl _ _⟩
  case round =>
    obtain ⟨f, a, b, x, y, rfl, rfl, rfl, rfl, ha, hb, hr, hal⟩ := hrel
    by_cases h1 : 1 < a
    · obtain ⟨g, rfl, hrg, hr2⟩ := ivR_more hr h1
      have hqb : 0 ≤ a.tdiv b ∧ a.tdiv b ≤ 10007 := tdiv_le2 (by omega) (by omega)
      have hmm : -(10007 * 100000) ≤ a.tdiv b * y ∧ a.tdiv b * y ≤ 10007 * 100000 := mul_ab2 hqb (by omega)
      have htm := tm_le ha hrg.1
      have hte : a.tmod b = a % b := Int.tmod_eq_emod_of_nonneg ha
      rw [hte] at hr2 htm
      have hb0 : ¬ b = 0 := by omega
      have hw1 : IntKind.i64.wrap (a.tdiv b) = a.tdiv b := wrap_in (by omega) (by omega)
      have hw2 : IntKind.i64.wrap (a.tdiv b * y) = a.tdiv b * y := wrap_in (by omega) (by omega)
      have hw3 : IntKind.i64.wrap (x - a.tdiv b * y) = x - a.tdiv b * y := wrap_in (by omega) (by omega)
      go_wp2
      go_region
      all_goals (try go_wp2)
      all_goals (
        go_roundw
        case rel => exact ⟨g, b, a % b, y, x - a.tdiv b * y, rfl, rfl, rfl, rfl, hb, htm.1, hr2, hal.drew⟩
        case measure => simp [intOf]; omega)
    · have hxr := ivR_end hr h1
      subst hxr
      obtain ⟨hb1, hb2⟩ := tmod_bd x p hp
      have hq : 0 ≤ x.tmod p + p := by omega
      have hq2 : x.tmod p + p ≤ 20014 := by omega
      go_wp2
      all_goals (
        go_ret
        refine ⟨ret_int ?_, hal⟩
        first | exact tmod_add x p | (rw [← tmod_add x p, Int.add_emod_right]; done) | (rw [Int.tmod_eq_emod_of_nonneg hq]; exact tmod_add x p) | (rw [wrap_in (by omega) (by omega), Int.tmod_eq_emod_of_nonneg hq]; exact tmod_add x p))
end Go.Proofs.Ytiapoopcicjldaa
