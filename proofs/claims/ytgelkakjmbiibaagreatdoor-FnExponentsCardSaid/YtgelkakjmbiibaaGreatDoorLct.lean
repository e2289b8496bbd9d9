/-
  Lengths of elements and of normal words; how many elements have each length; elements in ascending order. No program is spoken of.
-/
import Derived.Test.YtgelkakjmbiibaaGreatDoorBlC
import Derived.Test.YtgelkakjmbiibaaGreatDoorZ22
import Derived.Test.YtgelkakjmbiibaaGreatDoorZ21
namespace Go.Proofs.YtgelkakjmbiibaaGreatDoor
set_option linter.unusedVariables false
set_option linter.unusedSimpArgs false
def cntW (n : Int) (d : List Int) (L : List (List Int)) (q : Nat) : Nat := (L.filter fun w => decide ((nwF n d w).length = q)).length
def lcUp (n : Int) (d : List Int) (M : Nat) (L : List (List Int)) : List Int := (List.range M).map fun q => (cntW n d L q : Int)
def lcF (n : Int) (d : List Int) : List Int := (List.range ((rSt n d).length + 1)).map fun k => ((lvAt n d k).length : Int)
def lcOf (n : Int) (d : List Int) : List Int := if (tyS n d).isSome then lcF n d else []
theorem lcUp_len (n : Int) (d : List Int) (M : Nat) (L : List (List Int)) : (lcUp n d M L).length = M := by simp [lcUp]
theorem lcUp_get {n : Int} {d : List Int} {M q : Nat} {L : List (List Int)} (hq : q < M) : (lcUp n d M L).getD q 0 = (cntW n d L q : Int) := by simp [lcUp, List.getD, hq]
theorem cntW_le (n : Int) (d : List Int) (L : List (List Int)) (q : Nat) : cntW n d L q ≤ L.length := List.length_filter_le _ _
theorem lcUp_nil (n : Int) (d : List Int) (M : Nat) : lcUp n d M [] = List.replicate M 0 := by
  refine ext_getD (by simp [lcUp]) fun k hk => ?_
  rw [lcUp_len] at hk
  rw [lcUp_get hk]
  simp [cntW, List.getD, hk]
theorem lcUp_next {n : Int} {d : List Int} {M : Nat} {L : List (List Int)} {w : List Int} (hq : (nwF n d w).length < M) : (lcUp n d M L).set (nwF n d w).length ((lcUp n d M L).getD (nwF n d w).length 0 + 1) = lcUp n d M (L ++ [w]) := by
  refine ext_getD (by simp [lcUp]) fun k hk => ?_
  rw [List.length_set, lcUp_len] at hk
  rw [lcUp_get (L := L ++ [w]) hk, lcUp_get hq]
  by_cases e : k = (nwF n d w).length
  · subst e
    rw [set_getD_eq (by rw [lcUp_len]; exact hk)]
    simp [cntW, List.filter_append]
  · rw [set_getD_ne (fun h => e h.symm), lcUp_get hk]
    simp [cntW, List.filter_append, show ¬ (nwF n d w).length = k from fun h => e h.symm]
theorem take_getL {L : List (List Int)} {k : Nat} (hk : k < L.length) : L.take (k + 1) = L.take k ++ [L.getD k []] := by
  rw [List.take_add_one, List.getElem?_eq_getElem hk, List.getD, List.getElem?_eq_getElem hk]
  rfl
theorem nw_of {n : Int} {d : List Int} (hS : (tyS n d).isSome = true) {w : List Int} (hw : w ∈ oAll n d (ones n 1)) : (nwF n d w).length = lnW n (coR n d) w ∧ (nwF n d w).length < (rSt n d).length + 1 ∧ actF n d (nwF n d w) (ones n 1) = w := by
  have h := wlOk hS
  have h1 := h.nw (phOk hS) (h.orR w hw)
  have h2 := h.lnR w
  have h3 := (rpOk hS).2
  exact ⟨h1.1, by omega, h1.2.1⟩
theorem lc_all {n : Int} {d : List Int} (hS : (tyS n d).isSome = true) : lcUp n d ((rSt n d).length + 1) (oAll n d (ones n 1)) = lcF n d := by
  have h := wlOk hS
  refine ext_getD (by simp [lcUp, lcF]) fun k hk => ?_
  rw [lcUp_len] at hk
  rw [lcUp_get hk, lcF]
  have e : ((List.range ((rSt n d).length + 1)).map fun k => ((lvAt n d k).length : Int)).getD k 0 = ((lvAt n d k).length : Int) := by simp [List.getD, hk]
  rw [e, ← h.part k]
  unfold cntW
  congr 2
  refine List.filter_congr fun w hw => ?_
  rw [(nw_of hS hw).1]
end Go.Proofs.YtgelkakjmbiibaaGreatDoor
