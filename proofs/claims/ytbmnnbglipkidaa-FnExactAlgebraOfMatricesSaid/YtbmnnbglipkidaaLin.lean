/-
  Rows of numbers modulo p: sums, combinations of rows, and what a step of a reduction leaves as it is. No program is spoken of.
-/
import Derived.Test.YtbmnnbglipkidaaBase
namespace Go.Proofs.Ytbmnnbglipkidaa
set_option linter.unusedVariables false
set_option linter.unusedSimpArgs false
def cg (p a b : Int) : Prop := p ∣ a - b
section
variable {p a b c d : Int}
theorem cg.refl (a : Int) : cg p a a := ⟨0, by omega⟩
theorem cg.of_eq (h : a = b) : cg p a b := h ▸ cg.refl a
theorem cg.symm (h : cg p a b) : cg p b a := by
  obtain ⟨k, hk⟩ := h
  exact ⟨-k, by rw [Int.mul_neg]; omega⟩
theorem cg.trans (h : cg p a b) (h2 : cg p b c) : cg p a c := by
  obtain ⟨k, hk⟩ := h
  obtain ⟨l, hl⟩ := h2
  exact ⟨k + l, by rw [Int.mul_add]; omega⟩
theorem cg.add (h : cg p a b) (h2 : cg p c d) : cg p (a + c) (b + d) := by
  obtain ⟨k, hk⟩ := h
  obtain ⟨l, hl⟩ := h2
  exact ⟨k + l, by rw [Int.mul_add]; omega⟩
theorem cg.mulL (c : Int) (h : cg p a b) : cg p (c * a) (c * b) := by
  obtain ⟨k, hk⟩ := h
  exact ⟨c * k, by rw [← Int.mul_sub, hk, Int.mul_left_comm]⟩
theorem cg.mulR (c : Int) (h : cg p a b) : cg p (a * c) (b * c) := by
  rw [Int.mul_comm a, Int.mul_comm b]
  exact h.mulL c
theorem cg.neg (h : cg p a b) : cg p (-a) (-b) := by
  obtain ⟨k, hk⟩ := h
  exact ⟨-k, by rw [Int.mul_neg]; omega⟩
theorem cg.sub (h : cg p a b) (h2 : cg p c d) : cg p (a - c) (b - d) := by
  rw [Int.sub_eq_add_neg, Int.sub_eq_add_neg]
  exact h.add h2.neg
theorem cg.emod (a : Int) : cg p (a % p) a := by
  refine ⟨-(a / p), ?_⟩
  have := Int.emod_add_mul_ediv a p
  rw [Int.mul_neg]
  omega
theorem cg.eq (h : cg p a b) (ha : 0 ≤ a ∧ a < p) (hb : 0 ≤ b ∧ b < p) : a = b := by
  obtain ⟨k, hk⟩ := h
  have h1 : k = 0 := by
    by_cases h2 : 1 ≤ k
    · have := Int.mul_le_mul_of_nonneg_left h2 (show 0 ≤ p by omega)
      omega
    · by_cases h3 : k ≤ -1
      · have := Int.mul_le_mul_of_nonneg_left h3 (show 0 ≤ p by omega)
        omega
      · omega
  rw [h1] at hk
  omega
end
def sm : Nat → (Nat → Int) → Int
  | 0, _ => 0
  | n + 1, f => sm n f + f n
section
variable {n : Nat} {f g : Nat → Int} {p : Int}
theorem sm_congr (h : ∀ i, i < n → f i = g i) : sm n f = sm n g := by
  induction n with
  | zero => rfl
  | succ n ih => rw [sm, sm, ih fun i hi => h i (by omega), h n (by omega)]
theorem sm_cg (h : ∀ i, i < n → cg p (f i) (g i)) : cg p (sm n f) (sm n g) := by
  induction n with
  | zero => exact cg.refl 0
  | succ n ih => exact (ih fun i hi => h i (by omega)).add (h n (by omega))
theorem sm_zero (h : ∀ i, i < n → f i = 0) : sm n f = 0 := by
  induction n with
  | zero => rfl
  | succ n ih => rw [sm, ih fun i hi => h i (by omega), h n (by omega)]; rfl
theorem sm_add (n : Nat) (f g : Nat → Int) : sm n (fun i => f i + g i) = sm n f + sm n g := by
  induction n with
  | zero => rfl
  | succ n ih => rw [sm, sm, sm, ih]; omega
theorem sm_mulR (n : Nat) (f : Nat → Int) (c : Int) : sm n (fun i => f i * c) = sm n f * c := by
  induction n with
  | zero => exact (Int.zero_mul c).symm
  | succ n ih => rw [sm, sm, ih, Int.add_mul]
theorem sm_mulL (n : Nat) (f : Nat → Int) (c : Int) : sm n (fun i => c * f i) = c * sm n f := by
  rw [Int.mul_comm c, ← sm_mulR]
  exact sm_congr fun i _ => Int.mul_comm ..
theorem sm_swap (n m : Nat) (f : Nat → Nat → Int) : sm n (fun i => sm m (f i)) = sm m (fun j => sm n fun i => f i j) := by
  induction n with
  | zero => exact (sm_zero fun _ _ => rfl).symm
  | succ n ih =>
    rw [sm, ih, ← sm_add]
    exact sm_congr fun j _ => rfl
theorem sm_one {r : Nat} (hr : r < n) (h : ∀ i, i < n → i ≠ r → f i = g i) : sm n f - f r = sm n g - g r := by
  induction n with
  | zero => omega
  | succ n ih =>
    by_cases e : r = n
    · subst e
      rw [sm, sm, sm_congr fun i hi => h i (by omega) (by omega)]
      omega
    · rw [sm, sm, h n (by omega) (by omega)]
      have := ih (by omega) fun i hi hn => h i (by omega) hn
      omega
theorem sm_pick {r : Nat} (hr : r < n) (h : ∀ i, i < n → i ≠ r → f i = 0) : sm n f = f r := by
  have h1 := sm_one (g := fun _ => 0) hr h
  have h2 : sm n (fun _ => 0) = 0 := sm_zero fun _ _ => rfl
  rw [h2] at h1
  omega
end
def cmb (n : Nat) (x : Nat → Int) (A : Nat → Nat → Int) (j : Nat) : Int := sm n fun i => x i * A i j
def fwd (p : Int) (n : Nat) (A B : Nat → Nat → Int) : Prop := ∀ x : Nat → Int, ∃ y : Nat → Int, ∀ j, cg p (cmb n x A j) (cmb n y B j)
def ker (p : Int) (n m : Nat) (A B : Nat → Nat → Int) : Prop := ∀ z : Nat → Int, (∀ i, i < n → cg p (sm m fun j => A i j * z j) 0) ↔ ∀ i, i < n → cg p (sm m fun j => B i j * z j) 0
section
variable {p : Int} {n m : Nat} {A B C : Nat → Nat → Int}
theorem fwd.refl : fwd p n A A := fun x => ⟨x, fun _ => cg.refl _⟩
theorem fwd.trans (h : fwd p n A B) (h2 : fwd p n B C) : fwd p n A C := fun x => by
  obtain ⟨y, hy⟩ := h x
  obtain ⟨z, hz⟩ := h2 y
  exact ⟨z, fun j => (hy j).trans (hz j)⟩
theorem ker.refl : ker p n m A A := fun _ => Iff.rfl
theorem ker.trans (h : ker p n m A B) (h2 : ker p n m B C) : ker p n m A C := fun z => (h z).trans (h2 z)
theorem fwd_swap {r k : Nat} (hr : r < n) (hk : k < n) (hB : ∀ i, i < n → B i = if i = r then A k else if i = k then A r else A i) : fwd p n A B := fun x => by
  refine ⟨fun i => if i = r then x k else if i = k then x r else x i, fun j => cg.of_eq ?_⟩
  by_cases e : r = k
  · subst e
    exact sm_congr fun i hi => by
      simp only [hB i hi]
      by_cases h : i = r
      · simp [h]
      · simp [h]
  · have h1 := sm_one (f := fun i => x i * A i j) (g := fun i => if i = r then x k * A k j else x i * A i j) hr (fun i _ hn => by simp [hn])
    have h2 := sm_one (f := fun i => if i = r then x k * A k j else x i * A i j) (g := fun i => (if i = r then x k else if i = k then x r else x i) * B i j) hk (fun i hi hn => by
      simp only [hB i hi]
      by_cases h : i = r
      · simp [h]
      · simp [h, hn])
    have e3 : ¬ k = r := fun h => e h.symm
    simp only [if_pos rfl, hB k hk, e3, if_false] at h1 h2
    show sm n (fun i => x i * A i j) = sm n fun i => (if i = r then x k else if i = k then x r else x i) * B i j
    simp only [if_true] at h1 h2
    omega
theorem ker_swap {r k : Nat} (hr : r < n) (hk : k < n) (hB : ∀ i, i < n → B i = if i = r then A k else if i = k then A r else A i) : ker p n m A B := fun z => by
  refine ⟨fun h i hi => ?_, fun h i hi => ?_⟩
  · rw [hB i hi]
    split
    · exact h k hk
    · split
      · exact h r hr
      · exact h i hi
  · by_cases e : i = r
    · subst e
      have := h k hk
      rw [hB k hk] at this
      by_cases e2 : k = i
      · subst e2
        simpa using this
      · simpa [e2] using this
    · by_cases e2 : i = k
      · subst e2
        have := h r hr
        rw [hB r hr] at this
        simpa using this
      · have := h i hi
        rw [hB i hi] at this
        simpa [e, e2] using this
theorem fwd_scale {r : Nat} {a b : Int} (hr : r < n) (hab : cg p (a * b) 1) (hB : ∀ i, i < n → i ≠ r → B i = A i) (hBr : ∀ j, cg p (B r j) (A r j * b)) : fwd p n A B := fun x => by
  refine ⟨fun i => if i = r then x r * a else x i, fun j => ?_⟩
  have h1 := sm_one (f := fun i => x i * A i j) (g := fun i => (if i = r then x r * a else x i) * B i j) hr (fun i hi hn => by simp [hn, hB i hi hn])
  simp only [if_true] at h1
  have h2 : cg p (x r * a * B r j) (x r * A r j) := by
    refine ((hBr j).mulL (x r * a)).trans ?_
    have h3 := hab.mulL (x r * A r j)
    rw [Int.mul_one] at h3
    refine (cg.of_eq ?_).trans h3
    rw [Int.mul_assoc, Int.mul_assoc, Int.mul_left_comm a]
  show cg p (sm n fun i => x i * A i j) (sm n fun i => (if i = r then x r * a else x i) * B i j)
  have h4 := h2.symm.add (cg.refl (sm n (fun i => x i * A i j) - x r * A r j))
  refine ((cg.of_eq ?_).trans h4).trans (cg.of_eq ?_)
  · omega
  · omega
theorem ker_scale {r : Nat} {a b : Int} (hr : r < n) (hab : cg p (a * b) 1) (hB : ∀ i, i < n → i ≠ r → B i = A i) (hBr : ∀ j, cg p (B r j) (A r j * b)) : ker p n m A B := fun z => by
  have h1 : cg p (sm m fun j => B r j * z j) ((sm m fun j => A r j * z j) * b) := by
    rw [← sm_mulR]
    exact sm_cg fun j _ => ((hBr j).mulR (z j)).trans (cg.of_eq (by rw [Int.mul_assoc, Int.mul_assoc, Int.mul_comm b]))
  refine ⟨fun h i hi => ?_, fun h i hi => ?_⟩
  · by_cases e : i = r
    · subst e
      have h2 := (h i hi).mulR b
      rw [Int.zero_mul] at h2
      exact h1.trans h2
    · rw [hB i hi e]
      exact h i hi
  · by_cases e : i = r
    · subst e
      have h2 := (h1.symm.trans (h i hi)).mulR a
      rw [Int.zero_mul, Int.mul_assoc, Int.mul_comm b] at h2
      have h3 := hab.mulL (sm m fun j => A i j * z j)
      rw [Int.mul_one] at h3
      exact h3.symm.trans h2
    · have := h i hi
      rwa [hB i hi e] at this
theorem fwd_elim {r : Nat} {f : Nat → Int} (hr : r < n) (hf : f r = 0) (hB : ∀ i, i < n → ∀ j, cg p (B i j) (A i j + f i * A r j)) : fwd p n A B := fun x => by
  refine ⟨fun i => if i = r then x r - sm n (fun i => x i * f i) else x i, fun j => ?_⟩
  have h1 := sm_one (f := fun i => (if i = r then x r - sm n (fun i => x i * f i) else x i) * (A i j + f i * A r j)) (g := fun i => x i * (A i j + f i * A r j)) hr (fun i hi hn => by simp [hn])
  simp only [if_true, hf, Int.zero_mul, Int.add_zero] at h1
  have h2 : sm n (fun i => x i * (A i j + f i * A r j)) = sm n (fun i => x i * A i j) + sm n (fun i => x i * f i) * A r j := by
    rw [← sm_mulR, ← sm_add]
    exact sm_congr fun i _ => by rw [Int.mul_add, Int.mul_assoc]
  have h3 : cg p (sm n fun i => (if i = r then x r - sm n (fun i => x i * f i) else x i) * B i j) (sm n fun i => (if i = r then x r - sm n (fun i => x i * f i) else x i) * (A i j + f i * A r j)) := sm_cg fun i hi => (hB i hi j).mulL _
  refine (cg.of_eq ?_).trans h3.symm
  rw [Int.sub_mul] at h1
  show sm n (fun i => x i * A i j) = _
  omega
theorem ker_elim {r : Nat} {f : Nat → Int} (hr : r < n) (hf : f r = 0) (hB : ∀ i, i < n → ∀ j, cg p (B i j) (A i j + f i * A r j)) : ker p n m A B := fun z => by
  have h1 : ∀ i, i < n → cg p (sm m fun j => B i j * z j) ((sm m fun j => A i j * z j) + f i * sm m fun j => A r j * z j) := fun i hi => by
    rw [← sm_mulL, ← sm_add]
    exact sm_cg fun j _ => ((hB i hi j).mulR (z j)).trans (cg.of_eq (by rw [Int.add_mul, Int.mul_assoc]))
  have hrr := h1 r hr
  rw [hf, Int.zero_mul, Int.add_zero] at hrr
  refine ⟨fun h i hi => ?_, fun h i hi => ?_⟩
  · have h2 := (h i hi).add ((h r hr).mulL (f i))
    rw [Int.mul_zero] at h2
    exact (h1 i hi).trans h2
  · have h2 := (h1 i hi).symm.trans (h i hi)
    have h3 := ((hrr.symm.trans (h r hr)).mulL (f i))
    have h4 := h2.sub h3
    rw [Int.mul_zero] at h4
    refine (cg.of_eq ?_).trans h4
    omega
end
end Go.Proofs.Ytbmnnbglipkidaa
