/-
  The types that are drawn, their rows in any order: the same type is found again. Checked by the kernel. No program is spoken of.
-/
import Derived.Test.YtgelkakjmbiibaaGreatDoorZ23
import Derived.Test.YtgelkakjmbiibaaGreatDoorCarQ
import Derived.Test.YtgelkakjmbiibaaGreatDoorRts
namespace Go.Proofs.YtgelkakjmbiibaaGreatDoor
set_option linter.unusedVariables false
set_option linter.unusedSimpArgs false
def ordP : Nat → List (List Int)
  | 0 => [[]]
  | i + 1 => (ordP i).flatMap fun o => (List.range (i + 1)).map fun k => o.take k ++ [(i : Int)] ++ o.drop k
theorem ordP_step {i k : Nat} {o : List Int} (ho : o ∈ ordP i) (hk : k ≤ i) : o.take k ++ [(i : Int)] ++ o.drop k ∈ ordP (i + 1) := by
  rw [ordP, List.mem_flatMap]
  exact ⟨o, ho, List.mem_map.2 ⟨k, List.mem_range.2 (by omega), rfl⟩⟩
theorem ordP_len : ∀ {i : Nat} {o : List Int}, o ∈ ordP i → o.length = i ∧ ∀ y ∈ o, 0 ≤ y ∧ y < i
  | 0, o, h => by
    rw [ordP, List.mem_singleton] at h
    subst h
    simp
  | i + 1, o, h => by
    rw [ordP, List.mem_flatMap] at h
    obtain ⟨p, hp, h2⟩ := h
    obtain ⟨k, hk, rfl⟩ := List.mem_map.1 h2
    obtain ⟨h3, h4⟩ := ordP_len hp
    have hk2 := List.mem_range.1 hk
    refine ⟨by simp; omega, fun y hy => ?_⟩
    rcases List.mem_append.1 hy with hy | hy
    · rcases List.mem_append.1 hy with hy | hy
      · have := h4 y (List.mem_of_mem_take hy); omega
      · rw [List.mem_singleton.1 hy]; omega
    · have := h4 y (List.mem_of_mem_drop hy); omega
def tpL : List ByteArray := [⟨#[65, 49]⟩, ⟨#[65, 50]⟩, ⟨#[65, 51]⟩, ⟨#[66, 50]⟩, ⟨#[66, 51]⟩, ⟨#[67, 51]⟩, ⟨#[71, 50]⟩, ⟨#[65, 49, 43, 65, 49]⟩, ⟨#[65, 49, 43, 65, 50]⟩, ⟨#[65, 49, 43, 66, 50]⟩, ⟨#[68, 52]⟩, ⟨#[65, 52]⟩, ⟨#[65, 49, 43, 71, 50]⟩, ⟨#[66, 50, 43, 66, 50]⟩, ⟨#[65, 49, 43, 65, 49, 43, 65, 49]⟩, ⟨#[65, 50, 43, 65, 50]⟩, ⟨#[67, 52]⟩, ⟨#[66, 52]⟩, ⟨#[70, 52]⟩]
def tpNm (k : Nat) : ByteArray := tpL.getD k ⟨#[]⟩
def tpKs : Nat → List Nat
  | 0 => [0]
  | 1 => [1]
  | 2 => [2]
  | 3 => [4]
  | 4 => [5]
  | 5 => [7]
  | 6 => [11]
  | 7 => [0, 0]
  | 8 => [0, 1]
  | 9 => [0, 4]
  | 10 => [9]
  | 11 => [3]
  | 12 => [0, 11]
  | 13 => [4, 4]
  | 14 => [0, 0, 0]
  | 15 => [1, 1]
  | 16 => [8]
  | 17 => [6]
  | _ => [10]
def tpN (k : Nat) : Int := (rkS (tpKs k) : Nat)
def tpD (k : Nat) : List Int := (matOf (tpKs k)).2
def chkTp (k : Nat) : Bool := cF (tpNm k) == some (tpKs k) && decide (1 ≤ tpN k) && decide (tpN k ≤ 4) && ((tpD k).length == ((tpN k) * (tpN k)).toNat) && (tyS (tpN k) (tpD k)).isSome && (ordP (tpN k).toNat).all fun o => tyS (tpN k) (subD (tpN k) (tpD k) o) == tyS (tpN k) (tpD k)
set_option maxRecDepth 100000 in
theorem chkTp_a : (List.range 10).all chkTp = true := by decide +kernel
set_option maxRecDepth 100000 in
theorem chkTp_b : (List.range 3).all (fun k => chkTp (k + 10)) = true := by decide +kernel
set_option maxRecDepth 100000 in
theorem chkTp_c : (List.range 3).all (fun k => chkTp (k + 13)) = true := by decide +kernel
set_option maxRecDepth 100000 in
theorem chkTp_d : (List.range 3).all (fun k => chkTp (k + 16)) = true := by decide +kernel
theorem tpOk {k : Nat} (hk : k < 19) : cR (tpNm k) = tpN k ∧ cD (tpNm k) = tpD k ∧ cF (tpNm k) = some (tpKs k) ∧ (1 ≤ tpN k ∧ tpN k ≤ 4) ∧ (tyS (tpN k) (tpD k)).isSome = true ∧ ∀ o ∈ ordP (tpN k).toNat, tyS (tpN k) (subD (tpN k) (tpD k) o) = tyS (tpN k) (tpD k) := by
  have h : chkTp k = true := by
    rcases (by omega : k < 10 ∨ (10 ≤ k ∧ k < 13) ∨ (13 ≤ k ∧ k < 16) ∨ (16 ≤ k ∧ k < 19)) with h | h | h | h
    · exact List.all_eq_true.1 chkTp_a k (List.mem_range.2 h)
    · have := List.all_eq_true.1 chkTp_b (k - 10) (List.mem_range.2 (by omega)); rwa [show k - 10 + 10 = k by omega] at this
    · have := List.all_eq_true.1 chkTp_c (k - 13) (List.mem_range.2 (by omega)); rwa [show k - 13 + 13 = k by omega] at this
    · have := List.all_eq_true.1 chkTp_d (k - 16) (List.mem_range.2 (by omega)); rwa [show k - 16 + 16 = k by omega] at this
  simp only [chkTp, Bool.and_eq_true, beq_iff_eq, decide_eq_true_eq, List.all_eq_true] at h
  obtain ⟨⟨⟨⟨⟨a, b⟩, c⟩, e⟩, f⟩, g⟩ := h
  exact ⟨by rw [cR, a]; rfl, by rw [cD, a]; rfl, a, ⟨b, c⟩, f, g⟩
theorem tpNm_all : (List.range 19).all (fun k => Nat.ble (tpNm k).size 20) = true := by decide +kernel
theorem tpNm_sz {k : Nat} (hk : k < 19) : (tpNm k).size ≤ 20 := Nat.le_of_ble_eq_true (List.all_eq_true.1 tpNm_all k (List.mem_range.2 hk))
theorem cd_small {n : Int} {d : List Int} (h : (tyS n d).isSome = true) : d.length ≤ 16 := by
  obtain ⟨h1, h2⟩ := tyS_ok h
  rcases (by omega : n = 1 ∨ n = 2 ∨ n = 3 ∨ n = 4) with rfl | rfl | rfl | rfl <;> omega
theorem ordP_next {a k : Nat} {os : List Int} (ho : os ∈ ordP a) (hl : os.length = a) (hk : k ≤ a) : (((os.drop 0).take (k - 0)) ++ [(a : Int)]) ++ ((os.drop k).take (os.length - k)) ∈ ordP (a + 1) := by
  rw [List.drop_zero, Nat.sub_zero, show (os.drop k).take (os.length - k) = os.drop k from List.take_of_length_le (by rw [List.length_drop]; omega)]
  exact ordP_step ho hk
end Go.Proofs.YtgelkakjmbiibaaGreatDoor

namespace Go.Proofs.YtgelkakjmbiibaaGreatDoor
set_option linter.unusedVariables false
set_option linter.unusedSimpArgs false
def cndP (chk : Int → List Int → Bool) (n a b : Nat) : Bool := (((candL n).drop a).take b).all fun d => chk n d
theorem cnd_len {n : Nat} (a : 1 ≤ n) (b : n ≤ 4) : (candL n).length ≤ 256 := four (P := fun n => (candL n).length ≤ 256) (by decide +kernel) (by decide +kernel) (by decide +kernel) (by decide +kernel) a b
theorem cnd_one {chk : Int → List Int → Bool} {n a b : Nat} (h : cndP chk n a b = true) {d : List Int} (hd : d ∈ (candL n).drop a) : chk n d = true ∨ d ∈ (candL n).drop (a + b) := by
  simp only [cndP, List.all_eq_true] at h
  rcases mem_parts b hd with h2 | h2
  · exact .inl (h d (by simpa using h2))
  · rw [List.drop_drop] at h2
    exact .inr h2
theorem cnd_all {chk : Int → List Int → Bool} (h1 : cndP chk 1 0 256 = true) (h2 : cndP chk 2 0 256 = true) (h3 : cndP chk 3 0 256 = true)
    (p0 : cndP chk 4 0 64 = true) (p1 : cndP chk 4 64 64 = true) (p2 : cndP chk 4 128 64 = true) (p3 : cndP chk 4 192 64 = true) {n : Int} {d : List Int} (h : (tyS n d).isSome = true) : chk n d = true := by
  obtain ⟨ks, hk⟩ := Option.isSome_iff_exists.1 h
  obtain ⟨m, rfl, a, b, hd⟩ := tyS_cand hk
  have hl := cnd_len a b
  have e : (candL m).drop 256 = [] := List.drop_of_length_le hl
  have h0 : d ∈ (candL m).drop 0 := by rwa [List.drop_zero]
  rcases (by omega : m = 1 ∨ m = 2 ∨ m = 3 ∨ m = 4) with rfl | rfl | rfl | rfl
  · rcases cnd_one h1 h0 with h | h
    · exact h
    · rw [Nat.zero_add, e] at h; simp at h
  · rcases cnd_one h2 h0 with h | h
    · exact h
    · rw [Nat.zero_add, e] at h; simp at h
  · rcases cnd_one h3 h0 with h | h
    · exact h
    · rw [Nat.zero_add, e] at h; simp at h
  · rcases cnd_one p0 h0 with h | h
    · exact h
    rcases cnd_one p1 h with h | h
    · exact h
    rcases cnd_one p2 h with h | h
    · exact h
    rcases cnd_one p3 h with h | h
    · exact h
    rw [e] at h
    simp at h
end Go.Proofs.YtgelkakjmbiibaaGreatDoor

namespace Go.Proofs.YtgelkakjmbiibaaGreatDoor
set_option linter.unusedVariables false
set_option linter.unusedSimpArgs false
def chkCn (n : Int) (d : List Int) : Bool := match tyS n d with
  | none => true
  | some ks => cF (tyN (some ks)) == some ks && ((rkS ks : Nat) : Int) == n && (lenF n d).length == n.toNat && ((List.range n.toNat).all fun i => inB ((lenF n d).getD i 0) 1 36 && (List.range n.toNat).all fun j => (lenF n d).getD i 0 * atI n d i j == (lenF n d).getD j 0 * atI n d j i) && (rSt n d).length == (rSt n (matOf ks).2).length
set_option maxRecDepth 100000 in
theorem chkCn_1 : cndP chkCn 1 0 256 = true := by decide +kernel
set_option maxRecDepth 100000 in
theorem chkCn_2 : cndP chkCn 2 0 256 = true := by decide +kernel
set_option maxRecDepth 100000 in
theorem chkCn_3 : cndP chkCn 3 0 256 = true := by decide +kernel
set_option maxRecDepth 100000 in
theorem chkCn_4 : cndP chkCn 4 0 64 = true := by decide +kernel
set_option maxRecDepth 100000 in
theorem chkCn_5 : cndP chkCn 4 64 64 = true := by decide +kernel
set_option maxRecDepth 100000 in
theorem chkCn_6 : cndP chkCn 4 128 64 = true := by decide +kernel
set_option maxRecDepth 100000 in
theorem chkCn_7 : cndP chkCn 4 192 64 = true := by decide +kernel
theorem cnOk {n : Int} {d : List Int} (h : (tyS n d).isSome = true) : cR (tyN (tyS n d)) = n ∧ cF (tyN (tyS n d)) = tyS n d ∧ (lenF n d).length = n.toNat ∧ (∀ i, i < n.toNat → (1 ≤ (lenF n d).getD i 0 ∧ (lenF n d).getD i 0 ≤ 36) ∧ ∀ j, j < n.toNat → (lenF n d).getD i 0 * atI n d i j = (lenF n d).getD j 0 * atI n d j i) ∧ (rSt n d).length = (rSt n (cD (tyN (tyS n d)))).length := by
  have hc := cnd_all chkCn_1 chkCn_2 chkCn_3 chkCn_4 chkCn_5 chkCn_6 chkCn_7 h
  obtain ⟨ks, hk⟩ := Option.isSome_iff_exists.1 h
  rw [chkCn, hk] at hc
  simp only [Bool.and_eq_true, beq_iff_eq, List.all_eq_true, List.mem_range] at hc
  obtain ⟨⟨⟨⟨a, b⟩, c⟩, e⟩, f⟩ := hc
  rw [hk]
  refine ⟨by rw [cR, a]; exact b, a, c, fun i hi => ⟨inB_true (e i hi).1, (e i hi).2⟩, by rw [cD, a]; exact f⟩
end Go.Proofs.YtgelkakjmbiibaaGreatDoor

namespace Go.Proofs.YtgelkakjmbiibaaGreatDoor
set_option linter.unusedVariables false
set_option linter.unusedSimpArgs false
theorem strEq_self (s : ByteArray) : strEq s s = true := by simp [strEq]
theorem strNe_self (s : ByteArray) : (!strEq s s) = false := by rw [strEq_self]; rfl
theorem tyN_tp_all : (List.range 19).all (fun k => Nat.ble (tyN (tyS (tpN k) (tpD k))).size 20) = true := by decide +kernel
theorem tyN_tp {k : Nat} (hk : k < 19) : (tyN (tyS (tpN k) (tpD k))).size ≤ 20 := Nat.le_of_ble_eq_true (List.all_eq_true.1 tyN_tp_all k (List.mem_range.2 hk))
def chkCs (n : Int) (d : List Int) : Bool := (tyS (cR (tyN (tyS n d))) (cD (tyN (tyS n d)))).isSome || (tyS n d).isNone
set_option maxRecDepth 100000 in
theorem chkCs_1 : cndP chkCs 1 0 256 = true := by decide +kernel
set_option maxRecDepth 100000 in
theorem chkCs_2 : cndP chkCs 2 0 256 = true := by decide +kernel
set_option maxRecDepth 100000 in
theorem chkCs_3 : cndP chkCs 3 0 256 = true := by decide +kernel
set_option maxRecDepth 100000 in
theorem chkCs_4 : cndP chkCs 4 0 64 = true := by decide +kernel
set_option maxRecDepth 100000 in
theorem chkCs_5 : cndP chkCs 4 64 64 = true := by decide +kernel
set_option maxRecDepth 100000 in
theorem chkCs_6 : cndP chkCs 4 128 64 = true := by decide +kernel
set_option maxRecDepth 100000 in
theorem chkCs_7 : cndP chkCs 4 192 64 = true := by decide +kernel
theorem cn_some {n : Int} {d : List Int} (h : (tyS n d).isSome = true) : (tyS (cR (tyN (tyS n d))) (cD (tyN (tyS n d)))).isSome = true := by
  have hc := cnd_all chkCs_1 chkCs_2 chkCs_3 chkCs_4 chkCs_5 chkCs_6 chkCs_7 h
  rw [chkCs, Bool.or_eq_true] at hc
  rcases hc with hc | hc
  · exact hc
  · cases e : tyS n d with
    | none => rw [e] at h; cases h
    | some ks => rw [e] at hc; cases hc
theorem cn_sym {n : Int} {d : List Int} {a b : Int} {i j : Nat} (h : a * atI n d i j = b * atI n d j i) : a * d.getD ((i : Int) * n + j).toNat 0 = b * d.getD ((j : Int) * n + i).toNat 0 := h
end Go.Proofs.YtgelkakjmbiibaaGreatDoor
