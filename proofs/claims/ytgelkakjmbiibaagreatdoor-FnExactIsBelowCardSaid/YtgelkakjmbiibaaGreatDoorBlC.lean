/-
  Positive roots as weights with their coroots, for the matrices of rank at most 4, checked by the kernel. No program is spoken of.
-/
import Derived.Test.YtgelkakjmbiibaaGreatDoorZ17
namespace Go.Proofs.YtgelkakjmbiibaaGreatDoor
set_option linter.unusedVariables false
set_option linter.unusedSimpArgs false
abbrev PrL := List (List Int × List Int)
def prOne (n : Int) (d : List Int) (p : List Int × List Int) (L : PrL) (i : Nat) : PrL := bif (coS n d p.2 i).all (fun x => decide (0 ≤ x)) && !L.any (fun q => q.2 == coS n d p.2 i) then L ++ [(rp n d i p.1, coS n d p.2 i)] else L
def prC (n : Int) (d : List Int) : Nat → PrL → Nat → PrL
  | 0, L, _ => L
  | f + 1, L, k => if k < L.length then prC n d f ((List.range n.toNat).foldl (prOne n d (L.getD k ([], []))) L) (k + 1) else L
def prR (n : Int) (d : List Int) : PrL := prC n d 30 ((List.range n.toNat).map fun i => (colW n d i, unitL n.toNat i)) 0
def chkPw (n : Int) (d : List Int) (P : PrL) : Bool :=
  (P.all fun p => (p.2.length == n.toNat) && (p.2.all fun x => decide (0 ≤ x)) && (prW n p.1 p.2 == 2) && (List.range n.toNat).all fun i => (p == (colW n d i, unitL n.toNat i)) || P.contains (rp n d i p.1, coS n d p.2 i)) &&
  ((List.range n.toNat).all fun i => P.contains (colW n d i, unitL n.toNat i)) && ((coR n d).length == (rSt n d).length)
def chkPws (n a b : Nat) : Bool := (((candL n).drop a).take b).all fun d => chkPw n d (prR n d)
set_option maxRecDepth 100000 in
theorem chkPws_1 : chkPws 1 0 1000 = true := by decide +kernel
set_option maxRecDepth 100000 in
theorem chkPws_2 : chkPws 2 0 1000 = true := by decide +kernel
set_option maxRecDepth 100000 in
theorem chkPws_3 : chkPws 3 0 1000 = true := by decide +kernel
set_option maxRecDepth 100000 in
theorem chkPws_4a : chkPws 4 0 32 = true := by decide +kernel
set_option maxRecDepth 100000 in
theorem chkPws_4b : chkPws 4 32 32 = true := by decide +kernel
set_option maxRecDepth 100000 in
theorem chkPws_4c : chkPws 4 64 32 = true := by decide +kernel
set_option maxRecDepth 100000 in
theorem chkPws_4d : chkPws 4 96 32 = true := by decide +kernel
set_option maxRecDepth 100000 in
theorem chkPws_4e : chkPws 4 128 32 = true := by decide +kernel
set_option maxRecDepth 100000 in
theorem chkPws_4f : chkPws 4 160 32 = true := by decide +kernel
set_option maxRecDepth 100000 in
theorem chkPws_4g : chkPws 4 192 32 = true := by decide +kernel
set_option maxRecDepth 100000 in
theorem chkPws_4h : chkPws 4 224 1000 = true := by decide +kernel
theorem chkPws_all {m : Nat} {d : List Int} (h1 : 1 ≤ m) (h4 : m ≤ 4) (hd : d ∈ candL m) : chkPw m d (prR m d) = true := by
  have one : ∀ n, chkPws n 0 1000 = true → (candL n).length ≤ 1000 → d ∈ candL n → chkPw n d (prR n d) = true := fun n h hl hd => by
    simp only [chkPws, List.all_eq_true] at h
    exact h d (by rw [List.drop_zero, List.take_of_length_le hl]; exact hd)
  have len : ∀ n, 1 ≤ n → n ≤ 4 → (candL n).length ≤ 1000 := fun n a b => four (P := fun n => (candL n).length ≤ 1000) (by decide +kernel) (by decide +kernel) (by decide +kernel) (by decide +kernel) a b
  rcases (by omega : m = 1 ∨ m = 2 ∨ m = 3 ∨ m = 4) with rfl | rfl | rfl | rfl
  · exact one 1 chkPws_1 (len 1 (by omega) (by omega)) hd
  · exact one 2 chkPws_2 (len 2 (by omega) (by omega)) hd
  · exact one 3 chkPws_3 (len 3 (by omega) (by omega)) hd
  · have step : ∀ a b, chkPws 4 a b = true → d ∈ (candL 4).drop a → chkPw 4 d (prR 4 d) = true ∨ d ∈ (candL 4).drop (a + b) := fun a b h hm => by
      simp only [chkPws, List.all_eq_true] at h
      rcases mem_parts b hm with h2 | h2
      · exact .inl (h d h2)
      · rw [List.drop_drop] at h2
        exact .inr h2
    have h0 : d ∈ (candL 4).drop 0 := by rwa [List.drop_zero]
    rcases step 0 32 chkPws_4a h0 with h | h1
    · exact h
    rcases step 32 32 chkPws_4b h1 with h | h2
    · exact h
    rcases step 64 32 chkPws_4c h2 with h | h3
    · exact h
    rcases step 96 32 chkPws_4d h3 with h | h4
    · exact h
    rcases step 128 32 chkPws_4e h4 with h | h5
    · exact h
    rcases step 160 32 chkPws_4f h5 with h | h6
    · exact h
    rcases step 192 32 chkPws_4g h6 with h | h7
    · exact h
    rcases step 224 1000 chkPws_4h h7 with h | h8
    · exact h
    rw [List.drop_of_length_le (by have hl := len 4 (by omega) (by omega); omega)] at h8
    simp at h8
theorem rpOk {n : Int} {d : List Int} (h : (tyS n d).isSome = true) : RpOk n d (prR n d) ∧ (coR n d).length = (rSt n d).length := by
  obtain ⟨ks, hk⟩ := Option.isSome_iff_exists.1 h
  obtain ⟨m, rfl, h1, h4, hd⟩ := tyS_cand hk
  have hw := chkPws_all h1 h4 hd
  simp only [chkPw, Bool.and_eq_true, beq_iff_eq] at hw
  obtain ⟨⟨hA, hB⟩, hC⟩ := hw
  rw [List.all_eq_true] at hA hB
  refine ⟨⟨fun p hp => ?_, fun p hp => ?_, fun p hp => ?_, fun i hi => ?_, fun p hp i hi => ?_⟩, hC⟩
  · have := hA p hp
    simp only [Bool.and_eq_true, beq_iff_eq] at this
    exact this.1.1.1
  · have := hA p hp
    simp only [Bool.and_eq_true, beq_iff_eq] at this
    exact getD_of_all this.1.1.2
  · have := hA p hp
    simp only [Bool.and_eq_true, beq_iff_eq] at this
    exact this.1.2
  · exact List.contains_iff_mem.1 (hB i (List.mem_range.2 hi))
  · have := hA p hp
    simp only [Bool.and_eq_true] at this
    have h2 := List.all_eq_true.1 this.2 i (List.mem_range.2 hi)
    rw [Bool.or_eq_true] at h2
    rcases h2 with h2 | h2
    · exact .inl (eq_of_beq h2)
    · exact .inr (List.contains_iff_mem.1 h2)
end Go.Proofs.YtgelkakjmbiibaaGreatDoor
