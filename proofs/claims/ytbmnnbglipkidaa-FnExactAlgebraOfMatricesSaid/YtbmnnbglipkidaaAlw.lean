/-
  The first text's states: rows with a unit matrix behind, the pivots kept, coordinates, the table. No program is spoken of.
-/
import Derived.Test.YtbmnnbglipkidaaSol
namespace Go.Proofs.Ytbmnnbglipkidaa
set_option linter.unusedVariables false
set_option linter.unusedSimpArgs false
set_option linter.unusedVariables false
set_option linter.unusedSimpArgs false
def exK (x : List (List Int)) (k : Nat) : List (List Int) := (List.range k).map fun i => x.getD i [] ++ eL x.length i
def kpF (m : Nat) (P : List Int) (q : Nat) : List Int := (P.take q).filter fun a => decide (a < (m : Int))
section
variable {x M L : List (List Int)} {a b P ps v : List Int} {m n k q : Nat} {p : Int}
theorem exK_next : exK x (k + 1) = exK x k ++ [x.getD k [] ++ eL x.length k] := by simp [exK, List.range_succ]
theorem exK_len : (exK x k).length = k := by simp [exK]
theorem exK_end (h : k = x.length) : exK x k = extE x := by subst h; rfl
theorem il_take (h : q < P.length) : P.take (q + 1) = P.take q ++ [P.getD q 0] := by
  rw [List.take_succ_eq_append_getElem h]
  simp [List.getD, h]
theorem kpF_yes (h : q < P.length) (hm : P.getD q 0 < (m : Int)) : kpF m P (q + 1) = kpF m P q ++ [P.getD q 0] := by
  rw [kpF, il_take h, List.filter_append, List.filter_cons_of_pos (by simpa using hm)]
  rfl
theorem kpF_no (h : q < P.length) (hm : ¬ P.getD q 0 < (m : Int)) : kpF m P (q + 1) = kpF m P q := by
  rw [kpF, il_take h, List.filter_append, List.filter_cons_of_neg (by simpa using hm)]
  simp [kpF]
theorem kpF_le : (kpF m P q).length ≤ q := Nat.le_trans (List.length_filter_le _ _) (by rw [List.length_take]; omega)
theorem kpF_end (hp : primeB p = true) (h : RwI p n m M) (hq : (redE p m M).2.length ≤ q) : kpF m (redE p m M).2 q = (red0 p m M).2 := by
  obtain ⟨_, _, _, h3⟩ := red_kept hp h
  rw [kpF, List.take_of_length_le hq]
  exact h3
theorem fr_beq (hp : primeB p = true) (h : RwI p n m M) : (((red0 p m M).2.length : Int) == (M.length : Int)) = frB p m M := by
  have h1 := fr_len hp h
  have h2 := h.len
  rw [frB]
  by_cases e : (red0 p m M).2.length = M.length
  · rw [e, beq_self_eq_true, decide_eq_true (Nat.le_refl _)]
  · rw [decide_eq_false (by omega)]
    exact beq_false_of_ne (by omega)
theorem cd_go (hab : (a, b) = cdA p m n L ps v k) (h0 : a.getD (ps.getD k 0).toNat 0 ≠ 0) : (adR p (p - a.getD (ps.getD k 0).toNat 0) a (((L.getD k []).drop 0).take (m - 0)), adR p (a.getD (ps.getD k 0).toNat 0) b (((L.getD k []).drop m).take ((L.getD k []).length - m))) = cdA p m n L ps v (k + 1) := by
  rw [cdA_next, ← hab, cdS, if_neg h0, List.take_of_length_le (l := (L.getD k []).drop m) (by rw [List.length_drop]; omega)]
  rfl
theorem cd_stay (hab : (a, b) = cdA p m n L ps v k) (h0 : a.getD (ps.getD k 0).toNat 0 = 0) : (a, b) = cdA p m n L ps v (k + 1) := by
  rw [cdA_next, ← hab, cdS, if_pos h0]
theorem part_rg {y : List Int} (h : ∀ j, 0 ≤ y.getD j 0 ∧ y.getD j 0 < p) (hp : 0 < p ∧ p ≤ 10007) (l q : Nat) : ∀ j, 0 ≤ ((y.drop l).take q).getD j 0 ∧ ((y.drop l).take q).getD j 0 ≤ 10007 := fun j => by
  have h1 := h (l + j)
  by_cases e : j < q
  · rw [take_getD e, drop_getD]
    omega
  · rw [List.getD, List.getElem?_eq_none (by rw [List.length_take]; omega)]
    simp
theorem part_len1 {y : List Int} (h : y.length = m + n) : ((y.drop 0).take (m - 0)).length = m := by
  rw [List.length_take, List.length_drop]
  omega
theorem part_len2 {y : List Int} (h : y.length = m + n) : ((y.drop m).take (y.length - m)).length = n := by
  rw [List.length_take, List.length_drop]
  omega
end
def zK (p : Int) (m : Nat) (hs : List Hd) (ds : List (List Int)) (i j : Nat) : Bool := zeroB (cdV p m ds (brK hs ds i j)).1
def tfS (p : Int) (m : Nat) (hs : List Hd) (ds : List (List Int)) (i j : Nat) : Bool := ((List.range i).all fun a => (List.range a).all (zK p m hs ds a)) && (List.range j).all (zK p m hs ds i)
def vK (p : Int) (m : Nat) (hs : List Hd) (ds : List (List Int)) (i j k : Nat) : Int := (cdV p m ds (brK hs ds i j)).2.getD k 0
section
variable {p : Int} {m i j : Nat} {hs : List Hd} {ds : List (List Int)}
theorem all_rs {f : Nat → Bool} {n : Nat} : (List.range (n + 1)).all f = ((List.range n).all f && f n) := by
  rw [List.range_succ, List.all_append]
  simp
theorem tfS_next : tfS p m hs ds i (j + 1) = (tfS p m hs ds i j && zK p m hs ds i j) := by
  rw [tfS, all_rs, tfS, Bool.and_assoc]
theorem tfS_row (h : j = i) : tfS p m hs ds i j = tfS p m hs ds (i + 1) 0 := by
  subst h
  rw [tfS, tfS, all_rs]
  simp
theorem tfS_zero : tfS p m hs ds 0 0 = true := rfl
theorem tfS_end (h : i = hs.length) : tfS p m hs ds i 0 = tfB p m hs.length ds (brA hs ds) := by
  subst h
  rw [tfS, tfB, List.range_zero, List.all_nil, Bool.and_true, Bool.eq_iff_iff]
  simp only [List.all_eq_true, List.mem_range]
  refine ⟨fun h a ha b hb => ?_, fun h a ha b hb => ?_⟩
  · rw [brA_at ha (by omega)]
    exact h a ha b hb
  · have := h a ha b hb
    rw [brA_at ha (by omega)] at this
    exact this
theorem tab_F {n : Nat} {d : List Int} (hn : hs.length = n) (h : TbG p n (vK p m hs ds) n 0 0 d) : TbG p n (fun i j k => (cdV p m ds ((brA hs ds).getD (i * n + j) [])).2.getD k 0) n 0 0 d := by
  refine ⟨h.len, fun a b c ha hb hc => ?_⟩
  rw [h.at3 a b c ha hb hc]
  subst hn
  simp only [brA_at ha hb, brA_at hb ha]
  rfl
theorem al_first {n : Nat} {p r : Int} {m : Nat} (hI : AoI hs ds n m p r) (hd : ds.length = hs.length) {d : List Int} (ht : TbG p n (vK p m hs ds) n 0 0 d) : (frB p m ds && tfS p m hs ds n 0) = (frB p m ds && tbB p m ds (brA hs ds)) ∧ ((frB p m ds && tbB p m ds (brA hs ds)) = true → d = tbD p m ds (brA hs ds)) := by
  have hn := hI.hn
  have hR := hI.rows hd
  rw [tfS_end hn.symm, hn]
  cases hf : frB p m ds with
  | false => exact ⟨rfl, fun h => by simp at h⟩
  | true =>
    rw [fine_eq hI.hp hR hf hI.br]
    exact ⟨rfl, fun h => table_eq hI.hp hR hf hI.br (by simpa using h) (tab_F hn ht)⟩
end
theorem at3B {i j k n q : Nat} {z : Int} (hz : z = (n : Int)) (hn : n ≤ 28) (hi : i < n) (hj : j < n) (hk : k < n) (h : q = (i * n + j) * n + k) : (0 ≤ (i : Int) * z ∧ (i : Int) * z ≤ 784) ∧ (0 ≤ ((i : Int) * z + (j : Int)) * z ∧ ((i : Int) * z + (j : Int)) * z ≤ 21952) ∧ ((i : Int) * z + (j : Int)) * z + (k : Int) = (q : Int) ∧ q < n * n * n := by
  subst hz h
  have h1 : i * n ≤ 28 * 28 := Nat.mul_le_mul (by omega) hn
  have h2 : i * n + j < n * n := rc_lt hi hj
  have h3 : n * n ≤ 28 * 28 := Nat.mul_le_mul hn hn
  have h4 : (i * n + j) * n ≤ 784 * 28 := Nat.mul_le_mul (by omega) hn
  have h5 := cube_lt hi hj hk
  have e1 : (i : Int) * (n : Int) = ((i * n : Nat) : Int) := (Int.natCast_mul ..).symm
  have e2 : ((i : Int) * (n : Int) + (j : Int)) * (n : Int) = (((i * n + j) * n : Nat) : Int) := by rw [e1, ← Int.natCast_add, ← Int.natCast_mul]
  refine ⟨by rw [e1]; exact ⟨Int.natCast_nonneg _, Int.ofNat_le.2 h1⟩, by rw [e2]; exact ⟨Int.natCast_nonneg _, Int.ofNat_le.2 h4⟩, ?_, h5⟩
  rw [e2, ← Int.natCast_add]
theorem cubeB {n : Nat} {z : Int} (hz : z = (n : Int)) (hn : n ≤ 28) : (0 ≤ z * z ∧ z * z ≤ 784) ∧ (0 ≤ z * z * z ∧ z * z * z ≤ 21952) ∧ (z * z * z).toNat = n * n * n := by
  subst hz
  have h3 : n * n ≤ 28 * 28 := Nat.mul_le_mul hn hn
  have h4 : n * n * n ≤ 784 * 28 := Nat.mul_le_mul h3 hn
  have e1 : (n : Int) * (n : Int) = ((n * n : Nat) : Int) := (Int.natCast_mul ..).symm
  have e2 : (n : Int) * (n : Int) * (n : Int) = ((n * n * n : Nat) : Int) := by rw [e1, ← Int.natCast_mul]
  refine ⟨by rw [e1]; exact ⟨Int.natCast_nonneg _, Int.ofNat_le.2 h3⟩, by rw [e2]; exact ⟨Int.natCast_nonneg _, Int.ofNat_le.2 h4⟩, by rw [e2]; rfl⟩
end Go.Proofs.Ytbmnnbglipkidaa
