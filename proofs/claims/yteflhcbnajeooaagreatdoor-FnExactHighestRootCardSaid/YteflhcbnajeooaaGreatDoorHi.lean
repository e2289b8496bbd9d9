/-
  The highest root: one part, or more; an element taken out of a list of lists; the library's Contains at one byte.
-/
import Derived.Test.YteflhcbnajeooaaGreatDoorNewA
import Derived.Test.YteflhcbnajeooaaGreatDoorLayM
import Derived.Test.YteflhcbnajeooaaGreatDoorCarS
import Derived.Shelf.Strings.Search3
namespace Go.Proofs.YteflhcbnajeooaaGreatDoor
set_option linter.unusedVariables false
set_option linter.unusedSimpArgs false
open Go.RowKit

section
variable {P : Program} {n : Nat} {env : List (Nat × Value)} {W : World} {own : List Asn}
theorem St.manyTake {w : World} {α : Type} {A : Value → α → Asn} {us : List Value} {xs : List α} {k : Nat} {d : α} (hk : k < us.length ∧ k < xs.length) (h : St W w (many A us xs :: own)) : St W w (A (us.getD k undef) (xs.getD k d) :: own) := by
  have h1 := St.unpack h
  refine h1.sub ?_
  have hm : A (us.getD k undef) (xs.getD k d) ∈ List.zipWith A us xs := List.mem_iff_getElem.2 ⟨k, by simp; omega, by simp [List.getD, hk.1, hk.2]⟩
  exact (List.singleton_sublist.2 hm).append (List.Sublist.refl _)
theorem GE.manyTake {α : Type} {A : Value → α → Asn} {us : List Value} {xs : List α} (k : Nat) (d : α) (hk : k < us.length ∧ k < xs.length) {e : Exit} {Q : Exit → Act → World → Prop} (h : GE e Q n env W (A (us.getD k undef) (xs.getD k d) :: own)) : GE e Q n env W (many A us xs :: own) := fun a w hf hs => h a w hf (hs.manyTake hk)
end
theorem contains1_w {W : World} {own : List Asn} {s : ByteArray} : Spec Tryz.prog 39 [.string s, .string ⟨#[43]⟩] W own fun v ow => v = .bool (decide (0 ≤ Lib.indexByte s.data.toList 43)) ∧ ow = own :=
  Spec.below fun w _ => (Any.strings_Contains_one Tryz.l144 s 43 w).mono fun e w' ⟨he, hw⟩ => ⟨he, hw ▸ Below.refl _ _⟩

def tyPl (ks : List Nat) : Bool := decide (0 ≤ Lib.indexByte (joinP (ks.map nameB)).data.toList 43) == decide (1 < ks.length)
set_option maxRecDepth 100000 in
theorem tyPl_all : ∀ n, 1 ≤ n → n ≤ 4 → (typesF 5 n 0).all tyPl = true := fun n h1 h4 => four (P := fun n => (typesF 5 n 0).all tyPl = true) (by decide +kernel) (by decide +kernel) (by decide +kernel) (by decide +kernel) h1 h4
theorem tyN_plus {n : Int} {d : List Int} (hS : (tyS n d).isSome = true) : decide (0 ≤ Lib.indexByte (tyN (tyS n d)).data.toList 43) = decide (1 < (psN (tyS n d)).length) := by
  rw [tyS_tyI] at hS ⊢
  cases h : tyI n d with
  | none => rw [h] at hS; cases hS
  | some ks =>
    have hk : ∃ m : Nat, n = m ∧ 1 ≤ m ∧ m ≤ 4 ∧ ks ∈ typesF 5 m 0 := by
      unfold tyI at h
      split at h
      · rename_i hok
        obtain ⟨m, rfl, h1, h4, _⟩ := okI_nat hok
        exact ⟨m, rfl, h1, h4, by simpa using List.mem_of_find?_eq_some h⟩
      · simp at h
    obtain ⟨m, rfl, h1, h4, hm⟩ := hk
    have := List.all_eq_true.1 (tyPl_all m h1 h4) ks hm
    rw [tyPl, beq_iff_eq] at this
    simp only [tyN, psN, List.length_map]
    exact this
def oneP (n : Int) (d : List Int) : Bool := (tyS n d).isSome && !(decide (1 < (psN (tyS n d)).length))
def hrA (n : Int) (d : List Int) : List Int := if oneP n d then (rSt n d).getD ((rSt n d).length - 1) [] else []
theorem hrA_len (n : Int) (d : List Int) : (hrA n d).length ≤ 4 := by
  unfold hrA
  split
  · rename_i h
    rw [oneP, Bool.and_eq_true] at h
    have hr := rtOk h.1
    have h1 := hr.pos
    have h2 := hr.slen
    have h3 := hr.lo
    have h4 := hr.rk
    have := (hr.sget (show (rSt n d).length - 1 < (rSt n d).length by omega)).1
    omega
  · simp
end Go.Proofs.YteflhcbnajeooaaGreatDoor
