/-
  Lengths of elements and of normal words; how many elements have each length; elements in ascending order. No program is spoken of.
-/
import Derived.Test.YtgelkakjmbiibaaGreatDoorBlC
import Derived.Test.YtgelkakjmbiibaaGreatDoorZ23
import Derived.Test.YtgelkakjmbiibaaGreatDoorZ32
namespace Go.Proofs.YtgelkakjmbiibaaGreatDoor
set_option linter.unusedVariables false
set_option linter.unusedSimpArgs false
def cntW (n : Int) (d : List Int) (L : List (List Int)) (q : Nat) : Nat := (L.filter fun w => decide ((nwF n d w).length = q)).length
def lcUp (n : Int) (d : List Int) (M : Nat) (L : List (List Int)) : List Int := (List.range M).map fun q => (cntW n d L q : Int)
def lcF (n : Int) (d : List Int) : List Int := (List.range ((rSt n d).length + 1)).map fun k => ((lvAt n d k).length : Int)
def lcOf (n : Int) (d : List Int) : List Int := if (tyS n d).isSome then lcF n d else []
theorem lcUp_len (n : Int) (d : List Int) (M : Nat) (L : List (List Int)) : (lcUp n d M L).length = M := by simp [lcUp]
theorem lcUp_get {n : Int} {d : List Int} {M q : Nat} {L : List (List Int)} (hq : q < M) : (lcUp n d M L).getD q 0 = (cntW n d L q : Int) := by simp [lcUp, List.getD, hq]
theorem cntW_le (n : Int) (d : List Int) (L : List (List Int)) (q : Nat) : cntW n d L q ≤ L.length := List.length_filter_le _ _
theorem lcUp_nil (n : Int) (d : List Int) (M : Nat) : lcUp n d M [] = List.replicate M 0 := by
  refine ext_getD (by simp [lcUp]) fun k hk => ?_
  rw [lcUp_len] at hk
  rw [lcUp_get hk]
  simp [cntW, List.getD, hk]
theorem lcUp_next {n : Int} {d : List Int} {M : Nat} {L : List (List Int)} {w : List Int} (hq : (nwF n d w).length < M) : (lcUp n d M L).set (nwF n d w).length ((lcUp n d M L).getD (nwF n d w).length 0 + 1) = lcUp n d M (L ++ [w]) := by
  refine ext_getD (by simp [lcUp]) fun k hk => ?_
  rw [List.length_set, lcUp_len] at hk
  rw [lcUp_get (L := L ++ [w]) hk, lcUp_get hq]
  by_cases e : k = (nwF n d w).length
  · subst e
    rw [set_getD_eq (by rw [lcUp_len]; exact hk)]
    simp [cntW, List.filter_append]
  · rw [set_getD_ne (fun h => e h.symm), lcUp_get hk]
    simp [cntW, List.filter_append, show ¬ (nwF n d w).length = k from fun h => e h.symm]
theorem take_getL {L : List (List Int)} {k : Nat} (hk : k < L.length) : L.take (k + 1) = L.take k ++ [L.getD k []] := by
  rw [List.take_add_one, List.getElem?_eq_getElem hk, List.getD, List.getElem?_eq_getElem hk]
  rfl
theorem nw_of {n : Int} {d : List Int} (hS : (tyS n d).isSome = true) {w : List Int} (hw : w ∈ oAll n d (ones n 1)) : (nwF n d w).length = lnW n (coR n d) w ∧ (nwF n d w).length < (rSt n d).length + 1 ∧ actF n d (nwF n d w) (ones n 1) = w := by
  have h := wlOk hS
  have h1 := h.nw (phOk hS) (h.orR w hw)
  have h2 := h.lnR w
  have h3 := (rpOk hS).2
  exact ⟨h1.1, by omega, h1.2.1⟩
theorem lc_all {n : Int} {d : List Int} (hS : (tyS n d).isSome = true) : lcUp n d ((rSt n d).length + 1) (oAll n d (ones n 1)) = lcF n d := by
  have h := wlOk hS
  refine ext_getD (by simp [lcUp, lcF]) fun k hk => ?_
  rw [lcUp_len] at hk
  rw [lcUp_get hk, lcF]
  have e : ((List.range ((rSt n d).length + 1)).map fun k => ((lvAt n d k).length : Int)).getD k 0 = ((lvAt n d k).length : Int) := by simp [List.getD, hk]
  rw [e, ← h.part k]
  unfold cntW
  congr 2
  refine List.filter_congr fun w hw => ?_
  rw [(nw_of hS hw).1]
def elM (n : Int) (d : List Int) (L : Nat) : List (List Int) := ((oAll n d (ones n 1)).filter fun w => decide ((nwF n d w).length = L)).map (nwF n d)
def elF (n : Int) (d : List Int) (L : Nat) : List (List Int) := (srtD (elM n d L)).reverse
def elOf (n : Int) (d : List Int) (L : Int) : List (List Int) := if (tyS n d).isSome && decide (0 ≤ L) then elF n d L.toNat else []
theorem nod_map {α β : Type} [DecidableEq β] {f : α → β} : ∀ {L : List α}, L.Nodup → (∀ x ∈ L, ∀ y ∈ L, f x = f y → x = y) → (L.map f).Nodup
  | [], _, _ => by simp
  | x :: t, hn, hi => by
    obtain ⟨h1, h2⟩ := List.nodup_cons.1 hn
    rw [List.map_cons, List.nodup_cons]
    refine ⟨fun hm => ?_, nod_map h2 fun a ha b hb => hi a (List.mem_cons_of_mem _ ha) b (List.mem_cons_of_mem _ hb)⟩
    obtain ⟨y, hy, e⟩ := List.mem_map.1 hm
    have := hi y (List.mem_cons_of_mem _ hy) x List.mem_cons_self e
    exact h1 (by rw [← this]; exact hy)
theorem elM_nod {n : Int} {d : List Int} (hS : (tyS n d).isSome = true) (L : Nat) : (elM n d L).Nodup :=
  nod_map ((oAll_nod _ _ _).sublist List.filter_sublist) fun x hx y hy e => by
    have h1 := (nw_of hS (List.mem_filter.1 hx).1).2.2
    have h2 := (nw_of hS (List.mem_filter.1 hy).1).2.2
    rw [← h1, ← h2, e]
theorem el_unique {n : Int} {d : List Int} (hS : (tyS n d).isSome = true) {L : Nat} {xs : List (List Int)} (hp : xs.Perm (elM n d L)) (hs : xs.Pairwise fun a b => ¬ cmpL b a < 0) : xs = elF n d L := by
  have h : xs.reverse = srtD (elM n d L) := srt_unique (elM_nod hS L) ((List.reverse_perm xs).trans hp) (by rw [List.pairwise_reverse]; exact hs)
  rw [elF, ← h, List.reverse_reverse]
theorem lv_words {n : Int} {d : List Int} (hS : (tyS n d).isSome = true) (L : Nat) : ((lvAt n d L).map (nwF n d)).Perm (elM n d L) := by
  have h := wlOk hS
  refine List.Perm.map _ ?_
  refine (List.perm_ext_iff_of_nodup (h.lev L).1.nod ((oAll_nod _ _ _).sublist List.filter_sublist)).2 fun w => ?_
  rw [(h.lev L).2 w, List.mem_filter, decide_eq_true_eq]
  constructor
  · rintro ⟨a, b⟩
    have hm := h.orAll a
    exact ⟨hm, by rw [(nw_of hS hm).1, b]⟩
  · rintro ⟨a, b⟩
    exact ⟨h.orR w a, by rw [← (nw_of hS a).1, b]⟩
theorem lcOf_len (n : Int) (d : List Int) : (lcOf n d).length ≤ 31 := by
  unfold lcOf
  split
  · rename_i h
    have h1 := (rtOk h).slen
    have h2 := (rtOk h).few
    rw [lcF, List.length_map, List.length_range]
    omega
  · simp
theorem elOf_yes {n : Int} {d : List Int} {L : Int} (hS : (tyS n d).isSome = true) (h : 0 ≤ L) : elOf n d L = elF n d L.toNat := by
  rw [elOf, hS, decide_eq_true h]
  rfl
theorem elOf_no {n : Int} {d : List Int} {L : Int} (h : (tyS n d).isSome = false) : elOf n d L = [] := by
  rw [elOf, h]
  rfl
theorem elOf_neg {n : Int} {d : List Int} {L : Int} (h : ¬ 0 ≤ L) : elOf n d L = [] := by
  rw [elOf, decide_eq_false h, Bool.and_false]
  rfl
def elUp (n : Int) (d : List Int) (L : Nat) (xs : List (List Int)) : List (List Int) := (xs.filter fun w => decide ((nwF n d w).length = L)).map (nwF n d)
theorem elUp_len (n : Int) (d : List Int) (L : Nat) (xs : List (List Int)) : (elUp n d L xs).length ≤ xs.length := by
  rw [elUp, List.length_map]
  exact List.length_filter_le _ _
theorem elUp_yes {n : Int} {d w : List Int} {L : Nat} {xs : List (List Int)} (h : (nwF n d w).length = L) : elUp n d L (xs ++ [w]) = elUp n d L xs ++ [nwF n d w] := by
  rw [elUp, elUp, List.filter_append, List.map_append]
  simp [h]
theorem elUp_no {n : Int} {d w : List Int} {L : Nat} {xs : List (List Int)} (h : (nwF n d w).length ≠ L) : elUp n d L (xs ++ [w]) = elUp n d L xs := by
  rw [elUp, elUp, List.filter_append, List.map_append]
  simp [h]
theorem elM_ent {n : Int} {d : List Int} {L : Nat} {y : List Int} (hS : (tyS n d).isSome = true) (hy : y ∈ elM n d L) : y.length ≤ 24 := by
  obtain ⟨w, hw, rfl⟩ := List.mem_map.1 hy
  have h1 := (nw_of hS (List.mem_filter.1 hw).1).1
  have h2 := lnW_le (wlOk hS).co w
  omega
theorem elOf_len (n : Int) (d : List Int) (L : Int) : (elOf n d L).length ≤ 1204 := by
  unfold elOf
  split
  · rename_i h
    rw [Bool.and_eq_true] at h
    rw [elF, List.length_reverse, srt_len, elM, List.length_map]
    have h1 := (wlOk h.1).orLen
    exact Nat.le_trans (List.length_filter_le _ _) (by omega)
  · simp
end Go.Proofs.YtgelkakjmbiibaaGreatDoor
