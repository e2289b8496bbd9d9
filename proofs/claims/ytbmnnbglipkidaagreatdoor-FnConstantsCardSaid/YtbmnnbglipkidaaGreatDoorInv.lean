/-
  Words at work on roots: roots they stay; those that fall below zero. A check by the kernel for all Cartan matrices. No program is spoken of.
-/
import Derived.Test.YtbmnnbglipkidaaGreatDoorNewA
namespace Go.Proofs.YtbmnnbglipkidaaGreatDoor
set_option linter.unusedVariables false
set_option linter.unusedSimpArgs false
open Go.RowKit
def chkT (n : Int) (d : List Int) : Bool :=
  (rSt n d).all fun x => decide (1 ≤ sumW x) && (List.range n.toNat).all fun i => (rSt n d).contains (rStep n d x i) || (x == unitL n.toNat i && rStep n d x i == mnF x)
def chkTs (n a b : Nat) : Bool := (((candL n).drop a).take b).all fun d => chkT n d
set_option maxRecDepth 100000 in
theorem chkTs_1 : chkTs 1 0 1000 = true := by decide +kernel
set_option maxRecDepth 100000 in
theorem chkTs_2 : chkTs 2 0 1000 = true := by decide +kernel
set_option maxRecDepth 100000 in
theorem chkTs_3 : chkTs 3 0 1000 = true := by decide +kernel
set_option maxRecDepth 100000 in
theorem chkTs_4a : chkTs 4 0 80 = true := by decide +kernel
set_option maxRecDepth 100000 in
theorem chkTs_4b : chkTs 4 80 80 = true := by decide +kernel
set_option maxRecDepth 100000 in
theorem chkTs_4c : chkTs 4 160 1000 = true := by decide +kernel
theorem chkTs_all {m : Nat} {d : List Int} (h1 : 1 ≤ m) (h4 : m ≤ 4) (hd : d ∈ candL m) : chkT m d = true := by
  have one : ∀ n, chkTs n 0 1000 = true → (candL n).length ≤ 1000 → d ∈ candL n → chkT n d = true := fun n h hl hd => by
    simp only [chkTs, List.all_eq_true] at h
    exact h d (by rw [List.drop_zero, List.take_of_length_le hl]; exact hd)
  have len : ∀ n, 1 ≤ n → n ≤ 4 → (candL n).length ≤ 1000 := fun n a b => four (P := fun n => (candL n).length ≤ 1000) (by decide +kernel) (by decide +kernel) (by decide +kernel) (by decide +kernel) a b
  rcases (by omega : m = 1 ∨ m = 2 ∨ m = 3 ∨ m = 4) with rfl | rfl | rfl | rfl
  · exact one 1 chkTs_1 (len 1 (by omega) (by omega)) hd
  · exact one 2 chkTs_2 (len 2 (by omega) (by omega)) hd
  · exact one 3 chkTs_3 (len 3 (by omega) (by omega)) hd
  · have ha := chkTs_4a
    have hb := chkTs_4b
    have hc := chkTs_4c
    simp only [chkTs, List.all_eq_true] at ha hb hc
    rcases mem_parts 80 hd with h | h
    · exact ha d h
    · rcases mem_parts 80 h with h2 | h2
      · exact hb d (by simpa using h2)
      · rw [List.drop_drop] at h2
        exact hc d (by
          have hl := len 4 (by omega) (by omega)
          rw [List.take_of_length_le (by rw [List.length_drop]; omega)]
          simpa using h2)
structure ClOk (n : Int) (d : List Int) : Prop where
  ht : ∀ x ∈ rSt n d, 1 ≤ sumW x
  cl : ∀ x ∈ rSt n d, ∀ i, i < n.toNat → (rSt n d).contains (rStep n d x i) = true ∨ (x = unitL n.toNat i ∧ rStep n d x i = mnF x)
theorem clOk {n : Int} {d : List Int} (h : (tyS n d).isSome = true) : ClOk n d := by
  obtain ⟨ks, hk⟩ := Option.isSome_iff_exists.1 h
  obtain ⟨m, rfl, h1, h4, hd⟩ := tyS_cand hk
  have h0 := chkTs_all h1 h4 hd
  simp only [chkT, List.all_eq_true, Bool.and_eq_true, Bool.or_eq_true, decide_eq_true_eq, beq_iff_eq, List.mem_range] at h0
  exact ⟨fun x hx => (h0 x hx).1, fun x hx i hi => (h0 x hx).2 i hi⟩
theorem RtOk.entX {n : Int} {d : List Int} (h : RtOk n d) {x : List Int} (hx : rtB (rSt n d) x = true) : (x.length : Int) = n ∧ ∀ j, -10 ≤ x.getD j 0 ∧ x.getD j 0 ≤ 10 := by
  have hlo := h.lo
  rw [rtB, Bool.or_eq_true] at hx
  rcases hx with hx | hx
  · obtain ⟨h1, h2⟩ := h.smem (List.contains_iff_mem.1 hx)
    exact ⟨by omega, fun j => by have := h2 j; omega⟩
  · obtain ⟨h1, h2⟩ := h.smem (List.contains_iff_mem.1 hx)
    rw [mnF_len] at h1
    exact ⟨by omega, fun j => by have := h2 j; rw [mnF_get] at this; omega⟩
theorem rStep_minus {n : Int} {d x : List Int} {i : Nat} (hi : i < x.length) : rStep n d (mnF x) i = mnF (rStep n d x i) := by
  refine ext_getD (by rw [rStep_len, mnF_len, mnF_len, rStep_len]) fun k hk => ?_
  rw [rStep_len, mnF_len] at hk
  rw [mnF_get]
  by_cases e : k = i
  · subst e
    rw [rStep, rStep, set_getD_eq (by rw [mnF_len]; exact hk), set_getD_eq hk, mnF_get]
    have h1 : dotN (fun j => atI n d k j) (fun j => (mnF x).getD j 0) n.toNat = -(dotN (fun j => atI n d k j) (x.getD · 0) n.toNat) := by
      simp only [mnF_get]
      exact dotN_neg _ _ _
    have h2 : dotN (fun j => atI n d k j) ((mnF x).getD · 0) n.toNat = dotN (fun j => atI n d k j) (fun j => (mnF x).getD j 0) n.toNat := rfl
    rw [h2, h1]
    omega
  · rw [rStep, rStep, set_getD_ne (fun h => e h.symm), set_getD_ne (fun h => e h.symm), mnF_get]
theorem rt_step {n : Int} {d x : List Int} (h : (tyS n d).isSome = true) {i : Nat} (hi : i < n.toNat) (hx : rtB (rSt n d) x = true) : rtB (rSt n d) (rStep n d x i) = true := by
  have hr := rtOk h
  have hc := clOk h
  have hlo := hr.lo
  have hl := (hr.entX hx).1
  rw [rtB, Bool.or_eq_true] at hx
  rcases hx with hx | hx
  · have hm := List.contains_iff_mem.1 hx
    rcases hc.cl _ hm i hi with h1 | ⟨_, h1⟩
    · rw [rtB, h1]; rfl
    · rw [rtB, h1, mnF_mnF, hx, Bool.or_true]
  · have hm := List.contains_iff_mem.1 hx
    have e := rStep_minus (n := n) (d := d) (x := mnF x) (i := i) (by rw [mnF_len]; omega)
    rw [mnF_mnF] at e
    rcases hc.cl _ hm i hi with h1 | ⟨_, h1⟩
    · rw [rtB, e, mnF_mnF, h1, Bool.or_true]
    · rw [rtB, e, h1, mnF_mnF, hx]
      rfl
section
variable {P : Program} {n : Nat} {env : List (Nat × Value)} {W : World} {own : List Asn}
end
end Go.Proofs.YtbmnnbglipkidaaGreatDoor
