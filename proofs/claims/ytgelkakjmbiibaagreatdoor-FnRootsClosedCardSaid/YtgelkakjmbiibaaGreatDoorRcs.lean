/-
  Sums of roots, as the law on roots and reflections reckons them. No program is spoken of.
-/
import Derived.Test.YtgelkakjmbiibaaGreatDoorRcn
namespace Go.Proofs.YtgelkakjmbiibaaGreatDoor
set_option linter.unusedVariables false
set_option linter.unusedSimpArgs false
def adS (y : List Int) (o : List Int) (i : Nat) : List Int := o.set i (IntKind.i64.wrap (o.getD i 0 + y.getD i 0))
def adF (x y : List Int) : List Int := (List.range x.length).foldl (adS y) x
theorem adF_len (x y : List Int) : (adF x y).length = x.length := by rw [adF, len_fold (fun o i => by simp [adS])]
theorem adF_get {x y : List Int} {k : Nat} (hk : k < x.length) : (adF x y).getD k 0 = IntKind.i64.wrap (x.getD k 0 + y.getD k 0) := by
  have h := fset_get (g := fun i (q : Int) => IntKind.i64.wrap (q + y.getD i 0)) (o := x) (m := x.length) (k := k) (by simp) hk
  rw [if_pos hk] at h
  exact h
theorem ad_zero {x r : List Int} {m : Nat} (hx : x.length = m) (hr : r.length = m) (h1 : ∀ j, -10 ≤ x.getD j 0 ∧ x.getD j 0 ≤ 10) (h2 : ∀ j, -10 ≤ r.getD j 0 ∧ r.getD j 0 ≤ 10) : adF x r = List.replicate m 0 ↔ ∀ j, j < m → x.getD j 0 + r.getD j 0 = 0 := by
  have key : ∀ j, j < m → (adF x r).getD j 0 = x.getD j 0 + r.getD j 0 := fun j hj => by
    have a := h1 j
    have b := h2 j
    rw [adF_get (by omega), wrap_in (by omega) (by omega)]
  constructor
  · intro h j hj
    rw [← key j hj, h, List.getD_eq_getElem?_getD, List.getElem?_replicate]
    simp [hj]
  · intro h
    refine ext_getD (by rw [adF_len, List.length_replicate, hx]) fun j hj => ?_
    rw [adF_len] at hj
    rw [key j (by omega), h j (by omega), List.getD_eq_getElem?_getD, List.getElem?_replicate]
    simp [show j < m by omega]
theorem RcLaw.near {n : Int} {d r x y : List Int} (h : RcLaw n d r x y) (hs : samB (adF x r) (List.replicate n.toNat 0) = true) : x = mnF r :=
  h.sum.1 ((ad_zero h.len.2.1 h.len.1 h.ent.2 h.ent.1).1 (samB_true hs))
theorem RcLaw.far {n : Int} {d r x y : List Int} (h : RcLaw n d r x y) (hs : samB (adF x r) (List.replicate n.toNat 0) = false) : x ≠ mnF r := fun e => by
  rw [samB_of ((ad_zero h.len.2.1 h.len.1 h.ent.2 h.ent.1).2 (h.sum.2 e))] at hs
  exact absurd hs (by simp)
theorem samB_ne {x y : List Int} (h : samB x y = false) : x ≠ y := fun e => by
  rw [samB_of e] at h
  exact absurd h (by simp)
end Go.Proofs.YtgelkakjmbiibaaGreatDoor
