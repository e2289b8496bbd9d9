/-
  MatrixOk (the program's and the reference's), by its contract.
-/
import Derived.Test.YtbmnnbglipkidaaPrime
namespace Go.Proofs.Ytbmnnbglipkidaa
set_option linter.unusedVariables false
set_option linter.unusedSimpArgs false
open Go.RowKit
def matOkB (m : Mat) : Bool := primeB m.p && (inB m.r 0 40 && (inB m.c 0 40 && (((m.d.length : Int) == m.r * m.c) && resB m.d m.p)))
structure MatOk (m : Mat) : Prop where
  prime : primeB m.p = true
  p0 : 2 ≤ m.p
  p1 : m.p ≤ 10007
  r0 : 0 ≤ m.r
  r1 : m.r ≤ 40
  c0 : 0 ≤ m.c
  c1 : m.c ≤ 40
  len : (m.d.length : Int) = m.r * m.c
  le : m.d.length ≤ 1600
  res : ∀ x ∈ m.d, 0 ≤ x ∧ x < m.p
theorem mul40_bd {r c : Int} (hr : 0 ≤ r ∧ r ≤ 40) (hc : 0 ≤ c ∧ c ≤ 40) : 0 ≤ r * c ∧ r * c ≤ 1600 :=
  ⟨Int.mul_nonneg hr.1 hc.1, Int.le_trans (Int.mul_le_mul hr.2 hc.2 hc.1 (by omega)) (by omega)⟩
theorem matOk_of {m : Mat} (h : matOkB m = true) : MatOk m := by
  simp only [matOkB, Bool.and_eq_true, beq_iff_eq] at h
  obtain ⟨h1, h2, h3, h4, h5⟩ := h
  have hp := primeB_range h1
  have hr := inB_true h2
  have hc := inB_true h3
  have hb := mul40_bd hr hc
  exact ⟨h1, hp.1, hp.2, hr.1, hr.2, hc.1, hc.2, h4, by omega, fun x hx => resB_mem h5 hx⟩
set_option maxHeartbeats 1000000 in
theorem matrixOk_any (v : Value) (m : Mat) (w : World) (h : IsMat w v m) :
    Calls Try.prog 21 #[v] w fun e w' => e = .returned (.bool (matOkB m)) ∧ Below w.heap.size w w' := by
  obtain ⟨dv, rfl, hd⟩ := h
  have hb := Below.allocs (w := w) (.cells #[.int .i64 m.p, .int .i64 m.r, .int .i64 m.c, dv] 41)
  have hd' : Ints _ _ m.d := Sl.below hd hb
  have hsz := Sl.size_le hd
  unfold maxLen at hsz
  obtain ⟨ao, cap, rfl⟩ := Sl.form hd
  obtain ⟨n, hn⟩ : ∃ n, n = m.d.length := ⟨_, rfl⟩
  have hF : matOkB m = (primeB m.p && (inB m.r 0 40 && (inB m.c 0 40 && (((n : Int) == m.r * m.c) && resB m.d m.p)))) := by rw [hn]; rfl
  rw [← hn] at hsz hb hd' ⊢
  have HF := hid hF; have HN := hid hn; have HB := hid hb
  clear hF hn hb hd
  obtain ⟨p, r, c, d⟩ := m
  dsimp only at *
  by_cases h1 : primeB p = true
  · by_cases h2 : inB r 0 40 = true
    · by_cases h3 : inB c 0 40 = true
      · obtain ⟨k0, k1⟩ := mul40_bd (inB_true h2) (inB_true h3)
        obtain ⟨p0, p1⟩ := primeB_range h1
        by_cases h4 : ((n : Int) == r * c) = true
        · have h4' : ((n : Int) != r * c) = false := by simpa using h4
          go_enter Try.func21, Try.ntmps21
          go_wp2_with (first | (go_at_call 45; refine (isPrime_any _ _).mono ?_; rintro e w1 ⟨rfl, rfl⟩) | (go_at_call 20; refine (inside_any _ _ _ _).mono ?_; rintro e w1 ⟨rfl, rfl⟩) | (go_at_call 46; refine (residues_any _ _ _ _ hd' (by omega) (by omega)).mono ?_; rintro e w1 ⟨rfl, hbx⟩))
          go_ret
          exact ⟨ret_bool (by rw [HF.out, h1, h2, h3, h4]; rfl), by first | exact HB.out | exact HB.out.trans (hbx.mono (by simp))⟩
        · have h4' : ((n : Int) == r * c) = false := by simpa using h4
          have h4'' : ((n : Int) != r * c) = true := by simpa using h4
          go_enter Try.func21, Try.ntmps21
          go_wp2_with (first | (go_at_call 45; refine (isPrime_any _ _).mono ?_; rintro e w1 ⟨rfl, rfl⟩) | (go_at_call 20; refine (inside_any _ _ _ _).mono ?_; rintro e w1 ⟨rfl, rfl⟩) | (go_at_call 46; refine (residues_any _ _ _ _ hd' (by omega) (by omega)).mono ?_; rintro e w1 ⟨rfl, hbx⟩))
          go_ret
          exact ⟨ret_bool (by rw [HF.out, h1, h2, h3, h4']; rfl), HB.out⟩
      · have h3' : inB c 0 40 = false := by simpa using h3
        go_enter Try.func21, Try.ntmps21
        go_wp2_with (first | (go_at_call 45; refine (isPrime_any _ _).mono ?_; rintro e w1 ⟨rfl, rfl⟩) | (go_at_call 20; refine (inside_any _ _ _ _).mono ?_; rintro e w1 ⟨rfl, rfl⟩) | (go_at_call 46; refine (residues_any _ _ _ _ hd' (by omega) (by omega)).mono ?_; rintro e w1 ⟨rfl, hbx⟩))
        go_ret
        exact ⟨ret_bool (by rw [HF.out, h1, h2, h3']; rfl), HB.out⟩
    · have h2' : inB r 0 40 = false := by simpa using h2
      go_enter Try.func21, Try.ntmps21
      go_wp2_with (first | (go_at_call 45; refine (isPrime_any _ _).mono ?_; rintro e w1 ⟨rfl, rfl⟩) | (go_at_call 20; refine (inside_any _ _ _ _).mono ?_; rintro e w1 ⟨rfl, rfl⟩) | (go_at_call 46; refine (residues_any _ _ _ _ hd' (by omega) (by omega)).mono ?_; rintro e w1 ⟨rfl, hbx⟩))
      go_ret
      exact ⟨ret_bool (by rw [HF.out, h1, h2']; rfl), HB.out⟩
  · have h1' : primeB p = false := by simpa using h1
    go_enter Try.func21, Try.ntmps21
    go_wp2_with (first | (go_at_call 45; refine (isPrime_any _ _).mono ?_; rintro e w1 ⟨rfl, rfl⟩) | (go_at_call 20; refine (inside_any _ _ _ _).mono ?_; rintro e w1 ⟨rfl, rfl⟩) | (go_at_call 46; refine (residues_any _ _ _ _ hd' (by omega) (by omega)).mono ?_; rintro e w1 ⟨rfl, hbx⟩))
    go_ret
    exact ⟨ret_bool (by rw [HF.out, h1']; rfl), HB.out⟩
set_option maxHeartbeats 1000000 in
theorem specMatrixOk_any (v : Value) (m : Mat) (w : World) (h : IsMat w v m) :
    Calls Try.prog 14 #[v] w fun e w' => e = .returned (.bool (matOkB m)) ∧ Below w.heap.size w w' := by
  obtain ⟨dv, rfl, hd⟩ := h
  have hb := Below.allocs (w := w) (.cells #[.int .i64 m.p, .int .i64 m.r, .int .i64 m.c, dv] 41)
  have hd' : Ints _ _ m.d := Sl.below hd hb
  have hsz := Sl.size_le hd
  unfold maxLen at hsz
  obtain ⟨ao, cap, rfl⟩ := Sl.form hd
  obtain ⟨n, hn⟩ : ∃ n, n = m.d.length := ⟨_, rfl⟩
  have hF : matOkB m = (primeB m.p && (inB m.r 0 40 && (inB m.c 0 40 && (((n : Int) == m.r * m.c) && resB m.d m.p)))) := by rw [hn]; rfl
  rw [← hn] at hsz hb hd' ⊢
  have HF := hid hF; have HN := hid hn; have HB := hid hb
  clear hF hn hb hd
  obtain ⟨p, r, c, d⟩ := m
  dsimp only at *
  by_cases h1 : primeB p = true
  · by_cases h2 : inB r 0 40 = true
    · by_cases h3 : inB c 0 40 = true
      · obtain ⟨k0, k1⟩ := mul40_bd (inB_true h2) (inB_true h3)
        obtain ⟨p0, p1⟩ := primeB_range h1
        by_cases h4 : ((n : Int) == r * c) = true
        · have h4' : ((n : Int) != r * c) = false := by simpa using h4
          go_enter Try.func14, Try.ntmps14
          go_wp2_with (first | (go_at_call 32; refine (specIsPrime_any _ _).mono ?_; rintro e w1 ⟨rfl, rfl⟩) | (go_at_call 33; refine (l1In_any _ _ _ _).mono ?_; rintro e w1 ⟨rfl, rfl⟩) | (go_at_call 34; refine (l1Residues_any _ _ _ _ hd').mono ?_; rintro e w1 ⟨rfl, rfl⟩))
          go_ret
          exact ⟨ret_bool (by rw [HF.out, h1, h2, h3, h4]; rfl), by first | exact HB.out | exact HB.out.trans (hbx.mono (by simp))⟩
        · have h4' : ((n : Int) == r * c) = false := by simpa using h4
          have h4'' : ((n : Int) != r * c) = true := by simpa using h4
          go_enter Try.func14, Try.ntmps14
          go_wp2_with (first | (go_at_call 32; refine (specIsPrime_any _ _).mono ?_; rintro e w1 ⟨rfl, rfl⟩) | (go_at_call 33; refine (l1In_any _ _ _ _).mono ?_; rintro e w1 ⟨rfl, rfl⟩) | (go_at_call 34; refine (l1Residues_any _ _ _ _ hd').mono ?_; rintro e w1 ⟨rfl, rfl⟩))
          go_ret
          exact ⟨ret_bool (by rw [HF.out, h1, h2, h3, h4']; rfl), HB.out⟩
      · have h3' : inB c 0 40 = false := by simpa using h3
        go_enter Try.func14, Try.ntmps14
        go_wp2_with (first | (go_at_call 32; refine (specIsPrime_any _ _).mono ?_; rintro e w1 ⟨rfl, rfl⟩) | (go_at_call 33; refine (l1In_any _ _ _ _).mono ?_; rintro e w1 ⟨rfl, rfl⟩) | (go_at_call 34; refine (l1Residues_any _ _ _ _ hd').mono ?_; rintro e w1 ⟨rfl, rfl⟩))
        go_ret
        exact ⟨ret_bool (by rw [HF.out, h1, h2, h3']; rfl), HB.out⟩
    · have h2' : inB r 0 40 = false := by simpa using h2
      go_enter Try.func14, Try.ntmps14
      go_wp2_with (first | (go_at_call 32; refine (specIsPrime_any _ _).mono ?_; rintro e w1 ⟨rfl, rfl⟩) | (go_at_call 33; refine (l1In_any _ _ _ _).mono ?_; rintro e w1 ⟨rfl, rfl⟩) | (go_at_call 34; refine (l1Residues_any _ _ _ _ hd').mono ?_; rintro e w1 ⟨rfl, rfl⟩))
      go_ret
      exact ⟨ret_bool (by rw [HF.out, h1, h2']; rfl), HB.out⟩
  · have h1' : primeB p = false := by simpa using h1
    go_enter Try.func14, Try.ntmps14
    go_wp2_with (first | (go_at_call 32; refine (specIsPrime_any _ _).mono ?_; rintro e w1 ⟨rfl, rfl⟩) | (go_at_call 33; refine (l1In_any _ _ _ _).mono ?_; rintro e w1 ⟨rfl, rfl⟩) | (go_at_call 34; refine (l1Residues_any _ _ _ _ hd').mono ?_; rintro e w1 ⟨rfl, rfl⟩))
    go_ret
    exact ⟨ret_bool (by rw [HF.out, h1']; rfl), HB.out⟩
end Go.Proofs.Ytbmnnbglipkidaa
