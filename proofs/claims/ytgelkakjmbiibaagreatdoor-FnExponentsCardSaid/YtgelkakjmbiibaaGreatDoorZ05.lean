/-
  Exponents: as many as the rank, their sum is the number of positive roots, the product of the numbers that follow them is the order of the group. No program is spoken of.
-/
import Derived.Test.YtgelkakjmbiibaaGreatDoorExa
import Derived.Test.YtgelkakjmbiibaaGreatDoorExb
namespace Go.Proofs.YtgelkakjmbiibaaGreatDoor
set_option linter.unusedVariables false
set_option linter.unusedSimpArgs false
theorem chkXq_4 : cndP chkXq 4 0 64 = true := cnd_four chkXq_4_0 chkXq_4_1 chkXq_4_2 chkXq_4_3
theorem chkXq_5 : cndP chkXq 4 64 64 = true := cnd_four chkXq_4_4 chkXq_4_5 chkXq_4_6 chkXq_4_7
theorem chkXq_6 : cndP chkXq 4 128 64 = true := cnd_four chkXq_4_8 chkXq_4_9 chkXq_4_10 chkXq_4_11
theorem chkXq_7 : cndP chkXq 4 192 64 = true := cnd_four chkXq_4_12 chkXq_4_13 chkXq_4_14 chkXq_4_15
theorem xqOk {n : Int} {d : List Int} (h : (tyS n d).isSome = true) : ((oAll n d (ones n 1)).length : Int) = prodE (eI (rSt n d)) ∧ (eI (rSt n d)).length = n.toNat ∧ sumE (eI (rSt n d)) = ((rSt n d).length : Int) ∧ ∀ y ∈ eI (rSt n d), 1 ≤ y ∧ y ≤ 11 := by
  have hc := cnd_all chkXq_1 chkXq_2 chkXq_3 chkXq_4 chkXq_5 chkXq_6 chkXq_7 h
  simp only [chkXq, Bool.and_eq_true, beq_iff_eq] at hc
  obtain ⟨⟨⟨a, b⟩, c⟩, e⟩ := hc
  rw [frcCs_eq, frc_eq] at a
  exact ⟨by rw [(wlOk h).ordE]; exact a, b, c, fun y hy => inB_true (List.all_eq_true.1 e y hy)⟩
theorem lcF_sym {n : Int} {d : List Int} (h : (tyS n d).isSome = true) {k : Nat} (hk : k < (lcF n d).length) : (lcF n d).getD k 0 = (lcF n d).getD ((lcF n d).length - 1 - k) 0 := by
  have e : (lcF n d).length = (rSt n d).length + 1 := by simp [lcF]
  rw [e] at hk ⊢
  have hR := (rpOk h).2
  have g : ∀ q, q < (rSt n d).length + 1 → (lcF n d).getD q 0 = ((lvAt n d q).length : Int) := fun q hq => by simp [lcF, List.getD, hq]
  rw [g k hk, g _ (by omega), lv_sym (wlOk h) (k := k) (by omega)]
  congr 3
  omega
theorem lcF_sum {n : Int} {d : List Int} (h : (tyS n d).isSome = true) : (lcF n d).foldl (fun o x => o + x) 0 = ((oAll n d (ones n 1)).length : Int) := by
  have hW := wlOk h
  have hR := (rpOk h).2
  have e : lvAt n d ((rSt n d).length + 1) = [] := by
    apply Classical.byContradiction
    intro hne
    obtain ⟨w, hw⟩ := List.exists_mem_of_ne_nil _ hne
    have h1 := ((hW.lev _).2 w).1 hw
    have h2 := hW.lnR w
    omega
  rw [hW.total e, lcF]
  have : ∀ m : Nat, ((List.range m).map fun k => ((lvAt n d k).length : Int)).foldl (fun o x => o + x) 0 = (lvSum n d m : Int) := fun m => by
    induction m with
    | zero => rfl
    | succ m ih =>
      rw [List.range_succ, List.map_append, List.foldl_append, ih, lvSum]
      simp
  exact this _
end Go.Proofs.YtgelkakjmbiibaaGreatDoor

namespace Go.Proofs.YtgelkakjmbiibaaGreatDoor
set_option linter.unusedVariables false
set_option linter.unusedSimpArgs false
theorem take_getI {L : List Int} {k : Nat} (hk : k < L.length) : L.take (k + 1) = L.take k ++ [L.getD k 0] := by
  rw [List.take_succ_eq_append_getElem hk, List.getD_eq_getElem?_getD, List.getElem?_eq_getElem hk, Option.getD_some]
theorem sumE_succ {L : List Int} {k : Nat} (hk : k < L.length) : sumE (L.take (k + 1)) = sumE (L.take k) + L.getD k 0 := by
  rw [take_getI hk, sumE, List.foldl_append]
  rfl
theorem prodE_succ {L : List Int} {k : Nat} (hk : k < L.length) : prodE (L.take (k + 1)) = prodE (L.take k) * (L.getD k 0 + 1) := by
  rw [take_getI hk, prodE, List.foldl_append]
  rfl
theorem ent_at {L : List Int} {a b : Int} (h : ∀ y ∈ L, a ≤ y ∧ y ≤ b) {k : Nat} (hk : k < L.length) : a ≤ L.getD k 0 ∧ L.getD k 0 ≤ b := by
  rw [List.getD_eq_getElem?_getD, List.getElem?_eq_getElem hk, Option.getD_some]
  exact h _ (List.getElem_mem hk)
theorem sumE_bd {L : List Int} {b : Int} (hb : 0 ≤ b) (h : ∀ y ∈ L, 0 ≤ y ∧ y ≤ b) : ∀ k : Nat, 0 ≤ sumE (L.take k) ∧ sumE (L.take k) ≤ b * k
  | 0 => by simp [sumE]
  | k + 1 => by
    obtain ⟨h1, h2⟩ := sumE_bd hb h k
    have e : b * ((k + 1 : Nat) : Int) = b * k + b := by rw [show ((k + 1 : Nat) : Int) = (k : Int) + 1 by omega, Int.mul_add, Int.mul_one]
    by_cases hk : k < L.length
    · have := ent_at h hk
      rw [sumE_succ hk]
      omega
    · rw [List.take_of_length_le (by omega)]
      rw [List.take_of_length_le (by omega)] at h1 h2
      omega
theorem prodE_bd {L : List Int} (hl : L.length ≤ 4) (h : ∀ y ∈ L, 1 ≤ y ∧ y ≤ 11) (k : Nat) : 1 ≤ prodE (L.take k) ∧ prodE (L.take k) ≤ 20736 := by
  have key : ∀ k : Nat, k ≤ L.length → 1 ≤ prodE (L.take k) ∧ prodE (L.take k) ≤ 12 ^ k := by
    intro k
    induction k with
    | zero => intro _; simp [prodE]
    | succ k ih =>
      intro hk
      obtain ⟨h1, h2⟩ := ih (by omega)
      have h3 := ent_at h (show k < L.length by omega)
      rw [prodE_succ (by omega)]
      constructor
      · have := Int.mul_le_mul h1 (show (1 : Int) ≤ L.getD k 0 + 1 by omega) (by omega) (by omega)
        omega
      · rw [Int.pow_succ]
        exact Int.mul_le_mul h2 (by omega) (by omega) (by have : (0 : Int) ≤ 12 ^ k := Int.pow_nonneg (by omega); omega)
  have hp : ∀ k : Nat, k ≤ 4 → (12 : Int) ^ k ≤ 20736 := fun k hk => by
    rcases (by omega : k = 0 ∨ k = 1 ∨ k = 2 ∨ k = 3 ∨ k = 4) with rfl | rfl | rfl | rfl | rfl <;> decide
  by_cases hk : k ≤ L.length
  · have h1 := key k hk
    have h2 := hp k (by omega)
    omega
  · have h1 := key L.length (Nat.le_refl _)
    rw [List.take_of_length_le (Nat.le_refl _)] at h1
    rw [List.take_of_length_le (by omega)]
    have h2 := hp L.length hl
    omega
structure ExqOk (n : Int) (d : List Int) : Prop where
  len : (exOf n d).length = n.toNat
  ent : ∀ y ∈ exOf n d, 1 ≤ y ∧ y ≤ 11
  sum : sumE (exOf n d) = ((rSt n d).length : Int)
  prod : prodE (exOf n d) = woF n d
  clen : (lcOf n d).length = (rSt n d).length + 1
  cent : ∀ y ∈ lcOf n d, 0 ≤ y ∧ y ≤ 1204
  csum : sumE (lcOf n d) = woF n d
  wob : 0 ≤ woF n d ∧ woF n d ≤ 1204
  sym : ∀ k, k < (lcOf n d).length → (lcOf n d).getD k 0 = (lcOf n d).getD ((lcOf n d).length - 1 - k) 0
theorem exqOk {n : Int} {d : List Int} (hS : (tyS n d).isSome = true) : ExqOk n d := by
  have e1 : exOf n d = eI (rSt n d) := by rw [exOf, if_pos hS]
  have e2 : lcOf n d = lcF n d := by rw [lcOf, if_pos hS]
  have e3 : woF n d = ((oAll n d (ones n 1)).length : Int) := by rw [woF, if_pos hS]
  obtain ⟨x1, x2, x3, x4⟩ := xqOk hS
  rw [← e1] at x1 x2 x3 x4
  have hW := wlOk hS
  refine ⟨x2, x4, x3, by rw [e3, x1], by rw [e2]; simp [lcF], fun y hy => ?_, by rw [e2, e3]; exact lcF_sum hS, by have := hW.orLen; omega, fun k hk => ?_⟩
  · rw [e2, lcF] at hy
    obtain ⟨k, hk, rfl⟩ := List.mem_map.1 hy
    have := hW.levLen k
    omega
  · rw [e2] at hk ⊢
    exact lcF_sym hS hk
end Go.Proofs.YtgelkakjmbiibaaGreatDoor
