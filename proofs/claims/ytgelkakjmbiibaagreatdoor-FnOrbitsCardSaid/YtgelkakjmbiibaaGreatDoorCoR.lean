/-
  Weyl groups of the matrices of rank at most 4: positive coroots and the tree, checked by the kernel. No program is spoken of.
-/
import Derived.Test.YtgelkakjmbiibaaGreatDoorTre
namespace Go.Proofs.YtgelkakjmbiibaaGreatDoor
set_option linter.unusedVariables false
set_option linter.unusedSimpArgs false
def coOne (n : Int) (d b : List Int) (L : List (List Int)) (i : Nat) : List (List Int) := bif (coS n d b i).all (fun x => decide (0 ≤ x)) && !L.contains (coS n d b i) then L ++ [coS n d b i] else L
def coC (n : Int) (d : List Int) : Nat → List (List Int) → Nat → List (List Int)
  | 0, L, _ => L
  | f + 1, L, k => if k < L.length then coC n d f ((List.range n.toNat).foldl (coOne n d (L.getD k [])) L) (k + 1) else L
def coR (n : Int) (d : List Int) : List (List Int) := coC n d 30 ((List.range n.toNat).map (unitL n.toNat)) 0
def chkCo (n : Int) (d : List Int) (R : List (List Int)) : Bool :=
  (R.all fun b => (b.length == n.toNat) && (b.all fun x => decide (0 ≤ x)) && (b.any fun x => decide (1 ≤ x))) && decide (R.length ≤ 24) &&
  ((List.range n.toNat).all fun i => R.contains (unitL n.toNat i) && ((R.erase (unitL n.toNat i)).map fun b => coS n d b i).isPerm (R.erase (unitL n.toNat i)) && (atI n d i i == 2) && (List.range n.toNat).all fun k => k == i || (decide (-3 ≤ atI n d k i) && decide (atI n d k i ≤ 0)))
def chkW (n : Int) (d : List Int) : Bool := chkCo n d (coR n d)
def chkY (n : Int) (d : List Int) : Bool := (frcCs n d n.toNat fun cs => frc (enW (ones n 1)) fun E => cntE cs 25 E).ble 1200
def chkWs (n a b : Nat) : Bool := (((candL n).drop a).take b).all fun d => chkW n d && chkY n d
set_option maxRecDepth 100000 in
theorem chkWs_1 : chkWs 1 0 1000 = true := by decide +kernel
set_option maxRecDepth 100000 in
theorem chkWs_2 : chkWs 2 0 1000 = true := by decide +kernel
set_option maxRecDepth 100000 in
theorem chkWs_3 : chkWs 3 0 1000 = true := by decide +kernel
set_option maxRecDepth 100000 in
theorem chkWs_4a : chkWs 4 0 32 = true := by decide +kernel
set_option maxRecDepth 100000 in
theorem chkWs_4b : chkWs 4 32 32 = true := by decide +kernel
set_option maxRecDepth 100000 in
theorem chkWs_4c : chkWs 4 64 32 = true := by decide +kernel
set_option maxRecDepth 100000 in
theorem chkWs_4d : chkWs 4 96 32 = true := by decide +kernel
set_option maxRecDepth 100000 in
theorem chkWs_4e : chkWs 4 128 32 = true := by decide +kernel
set_option maxRecDepth 100000 in
theorem chkWs_4f : chkWs 4 160 32 = true := by decide +kernel
set_option maxRecDepth 100000 in
theorem chkWs_4g : chkWs 4 192 32 = true := by decide +kernel
set_option maxRecDepth 100000 in
theorem chkWs_4h : chkWs 4 224 1000 = true := by decide +kernel
theorem chkWs_all {m : Nat} {d : List Int} (h1 : 1 ≤ m) (h4 : m ≤ 4) (hd : d ∈ candL m) : chkW m d = true ∧ chkY m d = true := by
  have one : ∀ n, chkWs n 0 1000 = true → (candL n).length ≤ 1000 → d ∈ candL n → chkW n d = true ∧ chkY n d = true := fun n h hl hd => by
    simp only [chkWs, List.all_eq_true, Bool.and_eq_true] at h
    exact h d (by rw [List.drop_zero, List.take_of_length_le hl]; exact hd)
  have len : ∀ n, 1 ≤ n → n ≤ 4 → (candL n).length ≤ 1000 := fun n a b => four (P := fun n => (candL n).length ≤ 1000) (by decide +kernel) (by decide +kernel) (by decide +kernel) (by decide +kernel) a b
  rcases (by omega : m = 1 ∨ m = 2 ∨ m = 3 ∨ m = 4) with rfl | rfl | rfl | rfl
  · exact one 1 chkWs_1 (len 1 (by omega) (by omega)) hd
  · exact one 2 chkWs_2 (len 2 (by omega) (by omega)) hd
  · exact one 3 chkWs_3 (len 3 (by omega) (by omega)) hd
  · have step : ∀ a b, chkWs 4 a b = true → d ∈ (candL 4).drop a → (chkW 4 d = true ∧ chkY 4 d = true) ∨ d ∈ (candL 4).drop (a + b) := fun a b h hm => by
      simp only [chkWs, List.all_eq_true, Bool.and_eq_true] at h
      rcases mem_parts b hm with h2 | h2
      · exact .inl (h d h2)
      · rw [List.drop_drop] at h2
        exact .inr h2
    have h0 : d ∈ (candL 4).drop 0 := by rwa [List.drop_zero]
    rcases step 0 32 chkWs_4a h0 with h | h1
    · exact h
    rcases step 32 32 chkWs_4b h1 with h | h2
    · exact h
    rcases step 64 32 chkWs_4c h2 with h | h3
    · exact h
    rcases step 96 32 chkWs_4d h3 with h | h4
    · exact h
    rcases step 128 32 chkWs_4e h4 with h | h5
    · exact h
    rcases step 160 32 chkWs_4f h5 with h | h6
    · exact h
    rcases step 192 32 chkWs_4g h6 with h | h7
    · exact h
    rcases step 224 1000 chkWs_4h h7 with h | h8
    · exact h
    rw [List.drop_of_length_le (by have hl := len 4 (by omega) (by omega); omega)] at h8
    simp at h8
theorem getD_of_all {b : List Int} (h : b.all (fun x => decide (0 ≤ x)) = true) (k : Nat) : 0 ≤ b.getD k 0 := by
  by_cases hk : k < b.length
  · rw [List.getD, List.getElem?_eq_getElem hk]
    exact of_decide_eq_true (List.all_eq_true.1 h _ (List.getElem_mem hk))
  · rw [List.getD, List.getElem?_eq_none (by omega)]
    exact Int.le_refl 0
theorem wlOk {n : Int} {d : List Int} (h : (tyS n d).isSome = true) : WlOk n d (coR n d) := by
  obtain ⟨ks, hk⟩ := Option.isSome_iff_exists.1 h
  obtain ⟨m, rfl, h1, h4, hd⟩ := tyS_cand hk
  obtain ⟨hw, hy⟩ := chkWs_all h1 h4 hd
  simp only [chkW, chkCo, List.all_eq_true, Bool.and_eq_true, Bool.or_eq_true, decide_eq_true_eq, beq_iff_eq, List.mem_range, List.any_eq_true] at hw
  obtain ⟨⟨hA, hB⟩, hC⟩ := hw
  have hY := Nat.le_of_ble_eq_true hy
  rw [frcCs_eq, frc_eq] at hY
  have hn : ((m : Int).toNat) = m := rfl
  refine ⟨⟨fun b hb => (hA b hb).1.1, fun b hb => getD_of_all (List.all_eq_true.2 fun x hx => decide_eq_true ((hA b hb).1.2 x hx)), fun b hb => ?_, hB, fun i hi => List.contains_iff_mem.1 (hC i hi).1.1.1, fun i hi => List.isPerm_iff.1 (hC i hi).1.1.2, fun i hi => (hC i hi).1.2⟩, ⟨by omega, fun i hi => (hC i hi).1.2, fun i k hi hk hne => ?_⟩, hY⟩
  · obtain ⟨x, hx, h1x⟩ := (hA b hb).2
    obtain ⟨k, hk, e⟩ := List.getElem_of_mem hx
    refine ⟨k, ?_, ?_⟩
    · rw [← (hA b hb).1.1]
      exact hk
    · rw [List.getD, List.getElem?_eq_getElem hk, e]
      exact h1x
  · rcases (hC i hi).2 k hk with e | e
    · exact absurd e hne
    · exact e
end Go.Proofs.YtgelkakjmbiibaaGreatDoor
