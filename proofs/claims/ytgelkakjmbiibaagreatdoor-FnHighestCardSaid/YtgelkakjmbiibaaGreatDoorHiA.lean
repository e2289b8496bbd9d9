/-
  The highest root: one part, or more; an element taken out of a list of lists; the library's Contains at one byte.
-/
import Derived.Test.YtgelkakjmbiibaaGreatDoorNewA
import Derived.Test.YtgelkakjmbiibaaGreatDoorLayM
import Derived.Test.YtgelkakjmbiibaaGreatDoorCarS
import Derived.Shelf.Strings.Search3
import Derived.Test.YtgelkakjmbiibaaGreatDoorCarV
namespace Go.Proofs.YtgelkakjmbiibaaGreatDoor
set_option linter.unusedVariables false
set_option linter.unusedSimpArgs false
open Go.RowKit
section
variable {P : Program} {n : Nat} {env : List (Nat × Value)} {W : World} {own : List Asn}
theorem St.manyTake {w : World} {α : Type} {A : Value → α → Asn} {us : List Value} {xs : List α} {k : Nat} {d : α} (hk : k < us.length ∧ k < xs.length) (h : St W w (many A us xs :: own)) : St W w (A (us.getD k undef) (xs.getD k d) :: own) := by
  have h1 := St.unpack h
  refine h1.sub ?_
  have hm : A (us.getD k undef) (xs.getD k d) ∈ List.zipWith A us xs := List.mem_iff_getElem.2 ⟨k, by simp; omega, by simp [List.getD, hk.1, hk.2]⟩
  exact (List.singleton_sublist.2 hm).append (List.Sublist.refl _)
theorem GE.manyTake {α : Type} {A : Value → α → Asn} {us : List Value} {xs : List α} (k : Nat) (d : α) (hk : k < us.length ∧ k < xs.length) {e : Exit} {Q : Exit → Act → World → Prop} (h : GE e Q n env W (A (us.getD k undef) (xs.getD k d) :: own)) : GE e Q n env W (many A us xs :: own) := fun a w hf hs => h a w hf (hs.manyTake hk)
end
theorem contains1_w {W : World} {own : List Asn} {s : ByteArray} : Spec Tryz.prog 96 [.string s, .string ⟨#[43]⟩] W own fun v ow => v = .bool (decide (0 ≤ Lib.indexByte s.data.toList 43)) ∧ ow = own :=
  Spec.below fun w _ => (Any.strings_Contains_one Tryz.l144 s 43 w).mono fun e w' ⟨he, hw⟩ => ⟨he, hw ▸ Below.refl _ _⟩
def tyPl (ks : List Nat) : Bool := decide (0 ≤ Lib.indexByte (joinP (ks.map nameB)).data.toList 43) == decide (1 < ks.length)
set_option maxRecDepth 100000 in
theorem tyPl_all : ∀ n, 1 ≤ n → n ≤ 4 → (typesF 5 n 0).all tyPl = true := fun n h1 h4 => four (P := fun n => (typesF 5 n 0).all tyPl = true) (by decide +kernel) (by decide +kernel) (by decide +kernel) (by decide +kernel) h1 h4
theorem tyN_plus {n : Int} {d : List Int} (hS : (tyS n d).isSome = true) : decide (0 ≤ Lib.indexByte (tyN (tyS n d)).data.toList 43) = decide (1 < (psN (tyS n d)).length) := by
  rw [tyS_tyI] at hS ⊢
  cases h : tyI n d with
  | none => rw [h] at hS; cases hS
  | some ks =>
    have hk : ∃ m : Nat, n = m ∧ 1 ≤ m ∧ m ≤ 4 ∧ ks ∈ typesF 5 m 0 := by
      unfold tyI at h
      split at h
      · rename_i hok
        obtain ⟨m, rfl, h1, h4, _⟩ := okI_nat hok
        exact ⟨m, rfl, h1, h4, by simpa using List.mem_of_find?_eq_some h⟩
      · simp at h
    obtain ⟨m, rfl, h1, h4, hm⟩ := hk
    have := List.all_eq_true.1 (tyPl_all m h1 h4) ks hm
    rw [tyPl, beq_iff_eq] at this
    simp only [tyN, psN, List.length_map]
    exact this
def oneP (n : Int) (d : List Int) : Bool := (tyS n d).isSome && !(decide (1 < (psN (tyS n d)).length))
def hrA (n : Int) (d : List Int) : List Int := if oneP n d then (rSt n d).getD ((rSt n d).length - 1) [] else []
end Go.Proofs.YtgelkakjmbiibaaGreatDoor

namespace Go.Proofs.YtgelkakjmbiibaaGreatDoor
set_option linter.unusedVariables false
set_option linter.unusedSimpArgs false
def cndP (chk : Int → List Int → Bool) (n a b : Nat) : Bool := (((candL n).drop a).take b).all fun d => chk n d
theorem cnd_len {n : Nat} (a : 1 ≤ n) (b : n ≤ 4) : (candL n).length ≤ 256 := four (P := fun n => (candL n).length ≤ 256) (by decide +kernel) (by decide +kernel) (by decide +kernel) (by decide +kernel) a b
theorem cnd_one {chk : Int → List Int → Bool} {n a b : Nat} (h : cndP chk n a b = true) {d : List Int} (hd : d ∈ (candL n).drop a) : chk n d = true ∨ d ∈ (candL n).drop (a + b) := by
  simp only [cndP, List.all_eq_true] at h
  rcases mem_parts b hd with h2 | h2
  · exact .inl (h d (by simpa using h2))
  · rw [List.drop_drop] at h2
    exact .inr h2
theorem cnd_all {chk : Int → List Int → Bool} (h1 : cndP chk 1 0 256 = true) (h2 : cndP chk 2 0 256 = true) (h3 : cndP chk 3 0 256 = true)
    (p0 : cndP chk 4 0 64 = true) (p1 : cndP chk 4 64 64 = true) (p2 : cndP chk 4 128 64 = true) (p3 : cndP chk 4 192 64 = true) {n : Int} {d : List Int} (h : (tyS n d).isSome = true) : chk n d = true := by
  obtain ⟨ks, hk⟩ := Option.isSome_iff_exists.1 h
  obtain ⟨m, rfl, a, b, hd⟩ := tyS_cand hk
  have hl := cnd_len a b
  have e : (candL m).drop 256 = [] := List.drop_of_length_le hl
  have h0 : d ∈ (candL m).drop 0 := by rwa [List.drop_zero]
  rcases (by omega : m = 1 ∨ m = 2 ∨ m = 3 ∨ m = 4) with rfl | rfl | rfl | rfl
  · rcases cnd_one h1 h0 with h | h
    · exact h
    · rw [Nat.zero_add, e] at h; simp at h
  · rcases cnd_one h2 h0 with h | h
    · exact h
    · rw [Nat.zero_add, e] at h; simp at h
  · rcases cnd_one h3 h0 with h | h
    · exact h
    · rw [Nat.zero_add, e] at h; simp at h
  · rcases cnd_one p0 h0 with h | h
    · exact h
    rcases cnd_one p1 h with h | h
    · exact h
    rcases cnd_one p2 h with h | h
    · exact h
    rcases cnd_one p3 h with h | h
    · exact h
    rw [e] at h
    simp at h
end Go.Proofs.YtgelkakjmbiibaaGreatDoor

namespace Go.Proofs.YtgelkakjmbiibaaGreatDoor
set_option linter.unusedVariables false
set_option linter.unusedSimpArgs false
def chkHi (n : Int) (d : List Int) : Bool := !(oneP n d) || ((hrA n d).length == n.toNat && ((hrA n d).all fun y => inB y 1 6) && ((wtF n d (hrA n d)).all fun y => decide (0 ≤ y)) &&
  ((List.range n.toNat).all fun i => !(rtB (rSt n d) ((hrA n d).set i ((hrA n d).getD i 0 + 1)))) && (rSt n d).all fun r => (List.range n.toNat).all fun i => decide (r.getD i 0 ≤ (hrA n d).getD i 0))
set_option maxRecDepth 100000 in
theorem chkHi_1 : cndP chkHi 1 0 256 = true := by decide +kernel
set_option maxRecDepth 100000 in
theorem chkHi_2 : cndP chkHi 2 0 256 = true := by decide +kernel
set_option maxRecDepth 100000 in
theorem chkHi_3 : cndP chkHi 3 0 256 = true := by decide +kernel
set_option maxRecDepth 100000 in
theorem chkHi_4 : cndP chkHi 4 0 64 = true := by decide +kernel
set_option maxRecDepth 100000 in
theorem chkHi_5 : cndP chkHi 4 64 64 = true := by decide +kernel
set_option maxRecDepth 100000 in
theorem chkHi_6 : cndP chkHi 4 128 64 = true := by decide +kernel
set_option maxRecDepth 100000 in
theorem chkHi_7 : cndP chkHi 4 192 64 = true := by decide +kernel
structure HiOk (n : Int) (d h : List Int) : Prop where
  len : h.length = n.toNat
  ent : ∀ i, i < n.toNat → 1 ≤ h.getD i 0 ∧ h.getD i 0 ≤ 6
  dom : ∀ i, i < n.toNat → 0 ≤ (wtF n d h).getD i 0
  top : ∀ i, i < n.toNat → rtB (rSt n d) (h.set i (h.getD i 0 + 1)) = false
  all : ∀ k, k < (rSt n d).length → ∀ i, i < n.toNat → ((rSt n d).getD k []).getD i 0 ≤ h.getD i 0
theorem hiOk2 {n : Int} {d : List Int} (h : oneP n d = true) : HiOk n d (hrA n d) := by
  have hS : (tyS n d).isSome = true := by rw [oneP, Bool.and_eq_true] at h; exact h.1
  have hc := cnd_all chkHi_1 chkHi_2 chkHi_3 chkHi_4 chkHi_5 chkHi_6 chkHi_7 hS
  rw [chkHi, h, Bool.not_true, Bool.false_or] at hc
  simp only [Bool.and_eq_true, beq_iff_eq, List.all_eq_true, List.mem_range, decide_eq_true_eq, Bool.not_eq_true'] at hc
  obtain ⟨⟨⟨⟨a, b⟩, c⟩, e⟩, f⟩ := hc
  refine ⟨a, fun i hi => ?_, fun i hi => ?_, e, fun k hk i hi => ?_⟩
  · have := b ((hrA n d).getD i 0) (by rw [List.getD, List.getElem?_eq_getElem (by omega)]; exact List.getElem_mem _)
    exact inB_true this
  · exact c ((wtF n d (hrA n d)).getD i 0) (by rw [List.getD, List.getElem?_eq_getElem (by rw [wtF_len]; exact hi)]; exact List.getElem_mem _)
  · exact f _ (by rw [List.getD, List.getElem?_eq_getElem hk]; exact List.getElem_mem _) i hi
theorem hi_wt {n : Int} {d h : List Int} (hH : HiOk n d h) (hn : 1 ≤ n ∧ n ≤ 4) : wtOk n h = true := wtOk_of (by have := hH.len; omega) fun k hk => by
  have := hH.ent k (by have := hH.len; omega)
  omega
theorem hi_64 {n : Int} {d h : List Int} (hH : HiOk n d h) {i : Nat} : All64 (h.set i (h.getD i 0 + 1)) := fun y hy => by
  have hb : ∀ y ∈ h, 1 ≤ y ∧ y ≤ 6 := fun y hy => by
    obtain ⟨k, hk, e⟩ := List.getElem_of_mem hy
    have h1 := hH.ent k (by have := hH.len; omega)
    rwa [List.getD, List.getElem?_eq_getElem hk, Option.getD_some, e] at h1
  rcases List.mem_or_eq_of_mem_set hy with h1 | h1
  · have := hb y h1
    unfold I64
    omega
  · rw [h1]
    by_cases hi : i < h.length
    · have := hH.ent i (by have := hH.len; omega)
      unfold I64
      omega
    · rw [List.getD, List.getElem?_eq_none (by omega)]
      unfold I64
      simp
theorem isRt_rt {n : Int} {d x : List Int} (hS : (tyS n d).isSome = true) (h64 : All64 x) : isRt n d x = (wtOk n x && rtB (rSt n d) x) := by
  rw [← isRt_of h64, hS, Bool.true_and]
end Go.Proofs.YtgelkakjmbiibaaGreatDoor
