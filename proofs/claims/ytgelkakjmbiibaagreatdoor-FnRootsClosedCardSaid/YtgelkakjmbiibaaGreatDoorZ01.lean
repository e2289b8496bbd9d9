/-
  A check over all Cartan matrices of rank at most 4, laid together from its parts. No program is spoken of.
-/
import Derived.Test.YtgelkakjmbiibaaGreatDoorCarV
import Derived.Test.YtgelkakjmbiibaaGreatDoorRts
import Derived.Test.YtgelkakjmbiibaaGreatDoorZ08
namespace Go.Proofs.YtgelkakjmbiibaaGreatDoor
set_option linter.unusedVariables false
set_option linter.unusedSimpArgs false
def cndP (chk : Int → List Int → Bool) (n a b : Nat) : Bool := (((candL n).drop a).take b).all fun d => chk n d
theorem cnd_len {n : Nat} (a : 1 ≤ n) (b : n ≤ 4) : (candL n).length ≤ 256 := four (P := fun n => (candL n).length ≤ 256) (by decide +kernel) (by decide +kernel) (by decide +kernel) (by decide +kernel) a b
theorem cnd_one {chk : Int → List Int → Bool} {n a b : Nat} (h : cndP chk n a b = true) {d : List Int} (hd : d ∈ (candL n).drop a) : chk n d = true ∨ d ∈ (candL n).drop (a + b) := by
  simp only [cndP, List.all_eq_true] at h
  rcases mem_parts b hd with h2 | h2
  · exact .inl (h d (by simpa using h2))
  · rw [List.drop_drop] at h2
    exact .inr h2
theorem cnd_all {chk : Int → List Int → Bool} (h1 : cndP chk 1 0 256 = true) (h2 : cndP chk 2 0 256 = true) (h3 : cndP chk 3 0 256 = true)
    (p0 : cndP chk 4 0 64 = true) (p1 : cndP chk 4 64 64 = true) (p2 : cndP chk 4 128 64 = true) (p3 : cndP chk 4 192 64 = true) {n : Int} {d : List Int} (h : (tyS n d).isSome = true) : chk n d = true := by
  obtain ⟨ks, hk⟩ := Option.isSome_iff_exists.1 h
  obtain ⟨m, rfl, a, b, hd⟩ := tyS_cand hk
  have hl := cnd_len a b
  have e : (candL m).drop 256 = [] := List.drop_of_length_le hl
  have h0 : d ∈ (candL m).drop 0 := by rwa [List.drop_zero]
  rcases (by omega : m = 1 ∨ m = 2 ∨ m = 3 ∨ m = 4) with rfl | rfl | rfl | rfl
  · rcases cnd_one h1 h0 with h | h
    · exact h
    · rw [Nat.zero_add, e] at h; simp at h
  · rcases cnd_one h2 h0 with h | h
    · exact h
    · rw [Nat.zero_add, e] at h; simp at h
  · rcases cnd_one h3 h0 with h | h
    · exact h
    · rw [Nat.zero_add, e] at h; simp at h
  · rcases cnd_one p0 h0 with h | h
    · exact h
    rcases cnd_one p1 h with h | h
    · exact h
    rcases cnd_one p2 h with h | h
    · exact h
    rcases cnd_one p3 h with h | h
    · exact h
    rw [e] at h
    simp at h
end Go.Proofs.YtgelkakjmbiibaaGreatDoor

namespace Go.Proofs.YtgelkakjmbiibaaGreatDoor
set_option linter.unusedVariables false
set_option linter.unusedSimpArgs false
def chkCn (n : Int) (d : List Int) : Bool := match tyS n d with
  | none => true
  | some ks => cF (tyN (some ks)) == some ks && ((rkS ks : Nat) : Int) == n && (lenF n d).length == n.toNat && ((List.range n.toNat).all fun i => inB ((lenF n d).getD i 0) 1 36 && (List.range n.toNat).all fun j => (lenF n d).getD i 0 * atI n d i j == (lenF n d).getD j 0 * atI n d j i) && (rSt n d).length == (rSt n (matOf ks).2).length
set_option maxRecDepth 100000 in
theorem chkCn_1 : cndP chkCn 1 0 256 = true := by decide +kernel
set_option maxRecDepth 100000 in
theorem chkCn_2 : cndP chkCn 2 0 256 = true := by decide +kernel
set_option maxRecDepth 100000 in
theorem chkCn_3 : cndP chkCn 3 0 256 = true := by decide +kernel
set_option maxRecDepth 100000 in
theorem chkCn_4 : cndP chkCn 4 0 64 = true := by decide +kernel
set_option maxRecDepth 100000 in
theorem chkCn_5 : cndP chkCn 4 64 64 = true := by decide +kernel
set_option maxRecDepth 100000 in
theorem chkCn_6 : cndP chkCn 4 128 64 = true := by decide +kernel
set_option maxRecDepth 100000 in
theorem chkCn_7 : cndP chkCn 4 192 64 = true := by decide +kernel
theorem cnOk {n : Int} {d : List Int} (h : (tyS n d).isSome = true) : cR (tyN (tyS n d)) = n ∧ cF (tyN (tyS n d)) = tyS n d ∧ (lenF n d).length = n.toNat ∧ (∀ i, i < n.toNat → (1 ≤ (lenF n d).getD i 0 ∧ (lenF n d).getD i 0 ≤ 36) ∧ ∀ j, j < n.toNat → (lenF n d).getD i 0 * atI n d i j = (lenF n d).getD j 0 * atI n d j i) ∧ (rSt n d).length = (rSt n (cD (tyN (tyS n d)))).length := by
  have hc := cnd_all chkCn_1 chkCn_2 chkCn_3 chkCn_4 chkCn_5 chkCn_6 chkCn_7 h
  obtain ⟨ks, hk⟩ := Option.isSome_iff_exists.1 h
  rw [chkCn, hk] at hc
  simp only [Bool.and_eq_true, beq_iff_eq, List.all_eq_true, List.mem_range] at hc
  obtain ⟨⟨⟨⟨a, b⟩, c⟩, e⟩, f⟩ := hc
  rw [hk]
  refine ⟨by rw [cR, a]; exact b, a, c, fun i hi => ⟨inB_true (e i hi).1, (e i hi).2⟩, by rw [cD, a]; exact f⟩
end Go.Proofs.YtgelkakjmbiibaaGreatDoor
