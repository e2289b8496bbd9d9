/-
  Inverses modulo a prime, for all numbers: Euclid's way ends and gives one, the power p - 2 is one (Fermat). No program is spoken of.
-/
import Derived.Test.YtbmnnbglipkidaaZ06
import Derived.Test.YtbmnnbglipkidaaLin
namespace Go.Proofs.Ytbmnnbglipkidaa
set_option linter.unusedVariables false
set_option linter.unusedSimpArgs false
set_option linter.unusedVariables false
set_option linter.unusedSimpArgs false
theorem prB_dvd {p : Nat} (h : primeB (p : Int) = true) {d : Nat} (h2 : 2 ≤ d) (hd : d < p) : ¬ d ∣ p := fun ⟨e, he⟩ => by
  have hr := primeB_range h
  have hp : p ≤ 10007 := by omega
  have e2 : 2 ≤ e := by
    rcases e with _ | _ | e
    · simp at he; omega
    · simp at he; omega
    · omega
  have no : ∀ k l : Nat, 2 ≤ k → k ≤ l → p = k * l → False := fun k l hk hkl hkp => by
    have h1 : k * k ≤ p := by rw [hkp]; exact Nat.mul_le_mul_left k hkl
    have h3 : k ≤ 100 := Classical.byContradiction fun hc => by
      have := Nat.mul_le_mul (show 101 ≤ k by omega) (show 101 ≤ k by omega)
      omega
    have h4 := primeB_hit (n := (p : Int)) (d := k) hk h3 (by rw [← Int.natCast_mul]; omega) (by rw [hkp]; simp)
    rw [h4] at h
    cases h
  by_cases hle : d ≤ e
  · exact no d e h2 hle he
  · exact no e d e2 (by omega) (by rw [he, Nat.mul_comm])
theorem prB_cop {p : Nat} (h : primeB (p : Int) = true) {a : Nat} (h1 : 0 < a) (h2 : a < p) : Nat.Coprime p a := by
  have hg := Nat.gcd_dvd_left p a
  have hg2 := Nat.le_of_dvd h1 (Nat.gcd_dvd_right p a)
  have hg0 : 0 < Nat.gcd p a := Nat.gcd_pos_of_pos_right _ h1
  by_cases e : Nat.gcd p a = 1
  · exact e
  · exact absurd hg (prB_dvd h (by omega) (by omega))
theorem perm_of : ∀ (l m : List Nat), l.Nodup → (∀ x, x ∈ l → x ∈ m) → m.length ≤ l.length → l.Perm m
  | [], m, _, _, h => by
    have : m = [] := List.eq_nil_of_length_eq_zero (by simpa using h)
    rw [this]
  | x :: t, m, hn, hs, hl => by
    have hx := hs x (List.mem_cons_self ..)
    have hn2 := List.nodup_cons.1 hn
    have ih := perm_of t (m.erase x) hn2.2 (fun y hy => (List.mem_erase_of_ne (fun e : y = x => hn2.1 (by rw [← e]; exact hy))).2 (hs y (List.mem_cons_of_mem _ hy))) (by
      rw [List.length_erase_of_mem hx]
      simp only [List.length_cons] at hl
      omega)
    exact (ih.cons x).trans (List.perm_cons_erase hx).symm
def prd : List Nat → Nat
  | [] => 1
  | x :: t => x * prd t
theorem prd_perm {l m : List Nat} (h : l.Perm m) : prd l = prd m := by
  induction h with
  | nil => rfl
  | cons x _ ih => rw [prd, prd, ih]
  | swap x y l => simp only [prd, Nat.mul_left_comm]
  | trans _ _ h1 h2 => exact h1.trans h2
theorem prd_mod (p a : Nat) : ∀ l : List Nat, prd (l.map fun i => a * i % p) % p = a ^ l.length * prd l % p
  | [] => by simp [prd]
  | x :: t => by
    simp only [List.map_cons, prd, List.length_cons, Nat.pow_succ]
    rw [Nat.mul_mod, Nat.mod_mod, prd_mod p a t, ← Nat.mul_mod]
    congr 1
    simp only [Nat.mul_assoc, Nat.mul_left_comm, Nat.mul_comm]
theorem prd_cop {p : Nat} : ∀ l : List Nat, (∀ x, x ∈ l → Nat.Coprime p x) → Nat.Coprime p (prd l)
  | [], _ => Nat.coprime_one_right p
  | x :: t, h => (h x (List.mem_cons_self ..)).mul_right (prd_cop t fun y hy => h y (List.mem_cons_of_mem _ hy))
theorem fermat {p a : Nat} (h : primeB (p : Int) = true) (h1 : 0 < a) (h2 : a < p) : a ^ (p - 1) % p = 1 := by
  have hr := primeB_range h
  have hp : 2 ≤ p := by omega
  have hc := prB_cop h h1 h2
  obtain ⟨l, hl⟩ : ∃ l, l = List.range' 1 (p - 1) := ⟨_, rfl⟩
  have hm : ∀ x, x ∈ l ↔ 1 ≤ x ∧ x < p := fun x => by rw [hl, List.mem_range'_1]; omega
  have hll : l.length = p - 1 := by rw [hl, List.length_range']
  have inj : ∀ i j, i < j → j < p → a * i % p ≠ a * j % p := fun i j hij hj e => by
    have h3 := Nat.sub_mod_eq_zero_of_mod_eq e.symm
    rw [← Nat.mul_sub] at h3
    have h4 := hc.dvd_of_dvd_mul_left (Nat.dvd_of_mod_eq_zero h3)
    have := Nat.le_of_dvd (by omega) h4
    omega
  have hnd : (l.map fun i => a * i % p).Nodup := by
    refine List.pairwise_map.2 (List.Pairwise.imp_of_mem (R := (· ≠ ·)) (fun {i j} hi hj hne => ?_) (by rw [hl]; exact List.nodup_range'))
    have hi2 := (hm i).1 hi
    have hj2 := (hm j).1 hj
    by_cases hlt : i < j
    · exact inj i j hlt hj2.2
    · exact fun e => inj j i (by omega) hi2.2 e.symm
  have hsub : ∀ x, x ∈ (l.map fun i => a * i % p) → x ∈ l := fun x hx => by
    obtain ⟨i, hi, rfl⟩ := List.mem_map.1 hx
    have hi2 := (hm i).1 hi
    refine (hm _).2 ⟨?_, Nat.mod_lt _ (by omega)⟩
    have h0 := inj 0 i (by omega) hi2.2
    rw [Nat.mul_zero, Nat.zero_mod] at h0
    omega
  have hperm := perm_of _ l hnd hsub (by rw [List.length_map]; exact Nat.le_refl _)
  have e1 := prd_mod p a l
  rw [prd_perm hperm, hll] at e1
  have hcp : Nat.Coprime p (prd l) := prd_cop l fun x hx => prB_cop h (by have := (hm x).1 hx; omega) ((hm x).1 hx).2
  have h3 := Nat.sub_mod_eq_zero_of_mod_eq e1.symm
  have hpos : 1 ≤ a ^ (p - 1) := Nat.pow_pos h1
  rw [show a ^ (p - 1) * prd l - prd l = prd l * (a ^ (p - 1) - 1) by rw [Nat.mul_sub, Nat.mul_one, Nat.mul_comm]] at h3
  obtain ⟨k, hk⟩ := hcp.dvd_of_dvd_mul_left (Nat.dvd_of_mod_eq_zero h3)
  rw [show a ^ (p - 1) = 1 + p * k by omega, Nat.add_mul_mod_self_left]
  exact Nat.mod_eq_of_lt (by omega)
end Go.Proofs.Ytbmnnbglipkidaa
