/-
  The highest root: one part, or more; an element taken out of a list of lists; the library's Contains at one byte.
-/
import Derived.Test.YtbmnnbglipkidaaGreatDoorNewA
import Derived.Test.YtbmnnbglipkidaaGreatDoorZ13
import Derived.Test.YtbmnnbglipkidaaGreatDoorZ08
import Derived.Shelf.Strings.Search3
import Derived.Test.YtbmnnbglipkidaaGreatDoorRcm
namespace Go.Proofs.YtbmnnbglipkidaaGreatDoor
set_option linter.unusedVariables false
set_option linter.unusedSimpArgs false
open Go.RowKit
section
variable {P : Program} {n : Nat} {env : List (Nat × Value)} {W : World} {own : List Asn}
theorem St.manyTake {w : World} {α : Type} {A : Value → α → Asn} {us : List Value} {xs : List α} {k : Nat} {d : α} (hk : k < us.length ∧ k < xs.length) (h : St W w (many A us xs :: own)) : St W w (A (us.getD k undef) (xs.getD k d) :: own) := by
  have h1 := St.unpack h
  refine h1.sub ?_
  have hm : A (us.getD k undef) (xs.getD k d) ∈ List.zipWith A us xs := List.mem_iff_getElem.2 ⟨k, by simp; omega, by simp [List.getD, hk.1, hk.2]⟩
  exact (List.singleton_sublist.2 hm).append (List.Sublist.refl _)
theorem GE.manyTake {α : Type} {A : Value → α → Asn} {us : List Value} {xs : List α} (k : Nat) (d : α) (hk : k < us.length ∧ k < xs.length) {e : Exit} {Q : Exit → Act → World → Prop} (h : GE e Q n env W (A (us.getD k undef) (xs.getD k d) :: own)) : GE e Q n env W (many A us xs :: own) := fun a w hf hs => h a w hf (hs.manyTake hk)
end
end Go.Proofs.YtbmnnbglipkidaaGreatDoor

namespace Go.Proofs.YtbmnnbglipkidaaGreatDoor
set_option linter.unusedVariables false
set_option linter.unusedSimpArgs false
theorem getD_memR {L : List (List Int)} {k : Nat} (hk : k < L.length) : L.getD k [] ∈ L := by
  rw [List.getD_eq_getElem?_getD, List.getElem?_eq_getElem hk]
  exact List.getElem_mem _
theorem IsAt.eq {n : Int} {v w x r : List Int} {k : Int} (h : IsAt n v x k r) (g : IsAt n w x k r) : v = w := ext_getD (by have := h.1; have := g.1; omega) fun j hj => by
  have := h.1
  rw [h.2 j (by omega), g.2 j (by omega)]
theorem ten_wt {n : Int} {x : List Int} (hx : (x.length : Int) = n) (h : ten x) : wtOk n x = true := wtOk_of hx fun k _ => by have := h k; omega
structure RcLaw (n : Int) (d r x y : List Int) : Prop where
  rt : isRt n d r = true
  rx : isRt n d x = true
  len : r.length = n.toNat ∧ x.length = n.toNat ∧ y.length = n.toNat
  all : All64 r ∧ All64 x ∧ All64 y ∧ All64 (rbOf n d r x) ∧ All64 (rbOf n d r y)
  wt : wtOk n y = true ∧ wtOk n x = true
  z1 : isRt n d (rbOf n d r x) = true
  z2 : rbOf n d r (rbOf n d r x) = x
  k1 : 2 * inOf n d x r = prOf n d x r * inOf n d r r
  k2 : -1728000000 ≤ inOf n d x r ∧ inOf n d x r ≤ 1728000000
  s1 : inOf n d x y = inOf n d y x
  s2 : inOf n d (rbOf n d r x) (rbOf n d r y) = inOf n d x y
  co : dotN ((crOf n d r).getD · 0) ((wtOf n d y).getD · 0) n.toNat = prOf n d y r
  cl : (crOf n d r).length = n.toNat ∧ (wtOf n d y).length = n.toNat
  cb : ∀ i, i < n.toNat → (-360 ≤ (crOf n d r).getD i 0 ∧ (crOf n d r).getD i 0 ≤ 360) ∧ -12000 ≤ (wtOf n d y).getD i 0 ∧ (wtOf n d y).getD i 0 ≤ 12000
  same : (x = r ∨ x = mnF r) → rsA n d r x (-1) = -1 ∧ rsA n d r x 1 = -1
  str : x ≠ r → x ≠ mnF r → rsA n d r x (-1) - rsA n d r x 1 = prOf n d x r ∧ rsA n d r x (-1) + rsA n d r x 1 ≤ 3 ∧ 0 ≤ rsA n d r x (-1) ∧ 0 ≤ rsA n d r x 1
  sum : (∀ j, j < n.toNat → x.getD j 0 + r.getD j 0 = 0) ↔ x = mnF r
  ent : (∀ j, -10 ≤ r.getD j 0 ∧ r.getD j 0 ≤ 10) ∧ ∀ j, -10 ≤ x.getD j 0 ∧ x.getD j 0 ≤ 10
theorem lp_sub6 {x y : List Int} {n : Int} (hx : x.length = n.toNat) (bx : ∀ q ∈ x, 0 ≤ q ∧ q < 7) (hy : y.length = n.toNat) (b : ∀ q ∈ y, 0 ≤ q ∧ q < 7) : (lpF x (-1) y).length = n.toNat ∧ ∀ q ∈ lpF x (-1) y, -6 ≤ q ∧ q ≤ 6 := by
  refine ⟨by rw [lpF_len, hx], fun q hq => ?_⟩
  obtain ⟨k, hk, e⟩ := List.getElem_of_mem hq
  have hk2 : k < x.length := by rwa [lpF_len] at hk
  have hg := fset_get (g := fun i (z : Int) => IntKind.i64.wrap (z + IntKind.i64.wrap (-1 * y.getD i 0))) (o := x) (m := y.length) (k := k) (by omega) hk2
  rw [if_pos (by omega)] at hg
  have e2 : (lpF x (-1) y).getD k 0 = q := by rw [List.getD, List.getElem?_eq_getElem hk, e]; rfl
  have h1 := bx (x.getD k 0) (by rw [List.getD, List.getElem?_eq_getElem hk2]; exact List.getElem_mem _)
  have h2 := b (y.getD k 0) (by rw [List.getD, List.getElem?_eq_getElem (by omega)]; exact List.getElem_mem _)
  rw [← e2]
  unfold lpF
  rw [hg, wrap_in (x := -1 * y.getD k 0) (by omega) (by omega), wrap_in (by omega) (by omega)]
  omega
end Go.Proofs.YtbmnnbglipkidaaGreatDoor

namespace Go.Proofs.YtbmnnbglipkidaaGreatDoor
set_option linter.unusedVariables false
set_option linter.unusedSimpArgs false
def adS (y : List Int) (o : List Int) (i : Nat) : List Int := o.set i (IntKind.i64.wrap (o.getD i 0 + y.getD i 0))
def adF (x y : List Int) : List Int := (List.range x.length).foldl (adS y) x
theorem adF_len (x y : List Int) : (adF x y).length = x.length := by rw [adF, len_fold (fun o i => by simp [adS])]
theorem adF_get {x y : List Int} {k : Nat} (hk : k < x.length) : (adF x y).getD k 0 = IntKind.i64.wrap (x.getD k 0 + y.getD k 0) := by
  have h := fset_get (g := fun i (q : Int) => IntKind.i64.wrap (q + y.getD i 0)) (o := x) (m := x.length) (k := k) (by simp) hk
  rw [if_pos hk] at h
  exact h
end Go.Proofs.YtbmnnbglipkidaaGreatDoor
