/-
  Strings of roots: how often a root can be added; both texts in plain words. No program is spoken of.
-/
import Derived.Test.YteflhcbnajeooaaGreatDoorNewA
namespace Go.Proofs.YteflhcbnajeooaaGreatDoor
set_option linter.unusedVariables false
set_option linter.unusedSimpArgs false

/-- The first numbers at which p holds, one after another. -/
def rch (p : Nat → Bool) : Nat → Nat → Nat
  | 0, m => m
  | f + 1, m => if p (m + 1) then rch p f (m + 1) else m
theorem rch_step {p : Nat → Bool} {m : Nat} (hm : m < 40) (h : p (m + 1) = true) : rch p (40 - (m + 1)) (m + 1) = rch p (40 - m) m := by
  rw [show 40 - m = (40 - (m + 1)) + 1 by omega, rch, if_pos h]
theorem rch_end {p : Nat → Bool} {m : Nat} (hm : m < 40) (h : p (m + 1) = false) : rch p (40 - m) m = m := by
  rw [show 40 - m = (40 - (m + 1)) + 1 by omega, rch, h]
  rfl
theorem rch_le {p : Nat → Bool} {m : Nat} (hm : m ≤ 20) (h : p (m + 1) = true) (hb : p 21 = false) : m + 1 ≤ 20 := by
  by_cases e : m = 20
  · subst e
    rw [hb] at h
    cases h
  · omega
theorem lpF_get {x y : List Int} {k : Int} {j : Nat} (hj : j < x.length) (hl : y.length = x.length) : (lpF x k y).getD j 0 = IntKind.i64.wrap (x.getD j 0 + IntKind.i64.wrap (k * y.getD j 0)) := by
  have hg := fset_get (g := fun i (z : Int) => IntKind.i64.wrap (z + IntKind.i64.wrap (k * y.getD i 0))) (o := x) (m := y.length) (k := j) (by omega) hj
  rw [if_pos (by omega)] at hg
  exact hg
theorem lp_neg {x y : List Int} (m : Int) (hl : y.length = x.length) : lpF x m (mnF y) = lpF x (-1 * m) y := by
  refine ext_getD (by rw [lpF_len, lpF_len]) fun j hj => ?_
  rw [lpF_len] at hj
  rw [lpF_get hj (by rw [mnF_len]; exact hl), lpF_get hj hl, mnF_get, show m * -(y.getD j 0) = -1 * m * y.getD j 0 by rw [Int.mul_neg, Int.neg_mul, Int.one_mul, Int.neg_mul]]
theorem lp_one {x y : List Int} (m : Int) : lpF x m y = lpF x (1 * m) y := by rw [Int.one_mul]
theorem RtOk.ent2 {n : Int} {d : List Int} (h : RtOk n d) {x : List Int} (hx : rtB (rSt n d) x = true) : (x.length : Int) = n ∧ ∀ j, -10 ≤ x.getD j 0 ∧ x.getD j 0 ≤ 10 := by
  have hlo := h.lo
  rw [rtB, Bool.or_eq_true] at hx
  rcases hx with hx | hx
  · obtain ⟨h1, h2⟩ := h.smem (List.contains_iff_mem.1 hx)
    exact ⟨by omega, fun j => by have := h2 j; omega⟩
  · obtain ⟨h1, h2⟩ := h.smem (List.contains_iff_mem.1 hx)
    rw [mnF_len] at h1
    exact ⟨by omega, fun j => by have := h2 j; rw [mnF_get] at this; omega⟩
theorem RtOk.any {n : Int} {d : List Int} (h : RtOk n d) {x : List Int} (h64 : All64 x) : rtB (rSt n d) x = fdB n (rKvs n d) x := by
  rw [h.rt h64]
  cases e : rtB (rSt n d) x with
  | false => rw [Bool.and_false]
  | true =>
    obtain ⟨h1, h2⟩ := h.ent2 e
    rw [wtOk_of h1 fun k _ => by have := h2 k; omega]
    rfl
theorem RtOk.nz {n : Int} {d : List Int} (h : RtOk n d) (hn : RnOk n d) {x : List Int} (hx : rtB (rSt n d) x = true) : ∃ j, j < x.length ∧ x.getD j 0 ≠ 0 := by
  rw [rtB, Bool.or_eq_true] at hx
  rcases hx with hx | hx
  · obtain ⟨k, hk, h1⟩ := hn.nz _ (List.contains_iff_mem.1 hx)
    exact ⟨k, hk, by omega⟩
  · obtain ⟨k, hk, h1⟩ := hn.nz _ (List.contains_iff_mem.1 hx)
    rw [mnF_len] at hk
    rw [mnF_get] at h1
    exact ⟨k, hk, by omega⟩
theorem rs_stop {n : Int} {d x y : List Int} (hS : (tyS n d).isSome = true) (hx : rtB (rSt n d) x = true) (hy : rtB (rSt n d) y = true) (hx64 : All64 x) {k : Int} (hk : k = 1 ∨ k = -1) : fdB n (rKvs n d) (lpF x (k * ((21 : Nat) : Int)) y) = false := by
  have h := rtOk hS
  obtain ⟨x1, x2⟩ := h.ent2 hx
  obtain ⟨y1, y2⟩ := h.ent2 hy
  obtain ⟨j, hj, hjn⟩ := h.nz (rnOk hS) hy
  cases e : fdB n (rKvs n d) (lpF x (k * ((21 : Nat) : Int)) y) with
  | false => rfl
  | true =>
    exfalso
    rw [← h.any (lpF_all64 hx64)] at e
    have h3 := (h.ent2 e).2 j
    rw [lpF_get (by omega) (by omega)] at h3
    have h4 := x2 j
    have h5 := y2 j
    rcases hk with rfl | rfl
    · rw [wrap_in (x := 1 * ((21 : Nat) : Int) * y.getD j 0) (by omega) (by omega), wrap_in (by omega) (by omega)] at h3
      omega
    · rw [wrap_in (x := -1 * ((21 : Nat) : Int) * y.getD j 0) (by omega) (by omega), wrap_in (by omega) (by omega)] at h3
      omega
/-- How often y can be added (k = 1) to x, or taken from it (k = -1). -/
def rsN (n : Int) (d x y : List Int) (k : Int) : Int := (rch (fun (m : Nat) => fdB n (rKvs n d) (lpF x (k * (m : Int)) y)) 40 0 : Nat)
def rsOk (n : Int) (d y x : List Int) : Bool := isRt n d y && isRt n d x && !samB x y && !samB x (ngF y)
def rsA (n : Int) (d y x : List Int) (k : Int) : Int := if rsOk n d y x then rsN n d x y k else -1
theorem rs_plus {n : Int} {d x y : List Int} (hS : (tyS n d).isSome = true) (hx64 : All64 x) : (fun (m : Nat) => rtB (rSt n d) (lpF x (m : Int) y)) = fun (m : Nat) => fdB n (rKvs n d) (lpF x (1 * (m : Int)) y) := funext fun m => by rw [(rtOk hS).any (lpF_all64 hx64), Int.one_mul]
theorem rs_minus {n : Int} {d x y : List Int} (hS : (tyS n d).isSome = true) (hx64 : All64 x) (hl : y.length = x.length) : (fun (m : Nat) => rtB (rSt n d) (lpF x (m : Int) (mnF y))) = fun (m : Nat) => fdB n (rKvs n d) (lpF x (-1 * (m : Int)) y) := funext fun m => by rw [lp_neg _ hl, (rtOk hS).any (lpF_all64 hx64)]
theorem rs_plus21 {n : Int} {d x y : List Int} (hS : (tyS n d).isSome = true) (hx : rtB (rSt n d) x = true) (hy : rtB (rSt n d) y = true) (hx64 : All64 x) : rtB (rSt n d) (lpF x ((21 : Nat) : Int) y) = false := (congrFun (rs_plus (y := y) hS hx64) 21).trans (rs_stop hS hx hy hx64 (.inl rfl))
theorem rs_minus21 {n : Int} {d x y : List Int} (hS : (tyS n d).isSome = true) (hx : rtB (rSt n d) x = true) (hy : rtB (rSt n d) y = true) (hx64 : All64 x) (hl : y.length = x.length) : rtB (rSt n d) (lpF x ((21 : Nat) : Int) (mnF y)) = false := (congrFun (rs_minus hS hx64 hl) 21).trans (rs_stop hS hx hy hx64 (.inr rfl))
theorem lp_small {x y : List Int} {m : Nat} (hm : m ≤ 21) (hl : y.length = x.length) (hx : ∀ j, -10 ≤ x.getD j 0 ∧ x.getD j 0 ≤ 10) (hy : ∀ j, -10 ≤ y.getD j 0 ∧ y.getD j 0 ≤ 10) : ∀ k, k < (lpF x (m : Int) y).length → -1000 ≤ (lpF x (m : Int) y).getD k 0 ∧ (lpF x (m : Int) y).getD k 0 ≤ 1000 := fun k hk => by
  rw [lpF_len] at hk
  have h1 := hx k
  have h2 := hy k
  have h3 := mul_abs (a := (m : Int)) (b := y.getD k 0) (A := 21) (B := 10) (by omega) (by omega)
  rw [lpF_get hk hl, wrap_in (x := (m : Int) * y.getD k 0) (by omega) (by omega), wrap_in (by omega) (by omega)]
  omega
theorem mn_ten {y : List Int} (h : ∀ j, -10 ≤ y.getD j 0 ∧ y.getD j 0 ≤ 10) : ∀ j, -10 ≤ (mnF y).getD j 0 ∧ (mnF y).getD j 0 ≤ 10 := fun j => by
  have := h j
  rw [mnF_get]
  omega
end Go.Proofs.YteflhcbnajeooaaGreatDoor
