/-
  What is below an element: what the first text reaches and what the second one tests, in plain words; lists that lie in a pool.
-/
import Derived.Test.YtgelkakjmbiibaaGreatDoorBlw
import Derived.Test.YtgelkakjmbiibaaGreatDoorBlC
import Derived.Test.YtgelkakjmbiibaaGreatDoorCol
namespace Go.Proofs.YtgelkakjmbiibaaGreatDoor
set_option linter.unusedVariables false
set_option linter.unusedSimpArgs false
open Go.RowKit
def InPool (ps : List Value) (xs : List (List Int)) (u : Value) (x : List Int) : Prop := ∃ q, q < ps.length ∧ q < xs.length ∧ ps.getD q undef = u ∧ xs.getD q [] = x
theorem InPool.snoc {ps : List Value} {xs : List (List Int)} {u v : Value} {x y : List Int} (h : InPool ps xs u x) : InPool (ps ++ [v]) (xs ++ [y]) u x := by
  obtain ⟨q, h1, h2, h3, h4⟩ := h
  refine ⟨q, by rw [List.length_append]; omega, by rw [List.length_append]; omega, ?_, ?_⟩
  · rw [List.getD_eq_getElem?_getD, List.getElem?_append_left h1, ← List.getD_eq_getElem?_getD]; exact h3
  · rw [List.getD_eq_getElem?_getD, List.getElem?_append_left h2, ← List.getD_eq_getElem?_getD]; exact h4
theorem InPool.last {ps : List Value} {xs : List (List Int)} {v : Value} {y : List Int} (h : ps.length = xs.length) : InPool (ps ++ [v]) (xs ++ [y]) v y := by
  refine ⟨ps.length, by simp, by simp [h], by simp [List.getD], ?_⟩
  rw [h]
  simp [List.getD]
theorem Ent.pool {own : List Asn} {i e : Nat} {ps : List Value} {xs : List (List Int)} {u : Value} {x : List Int} (h : own[i]? = some (Proofs.YtgelkakjmbiibaaGreatDoor.many (Proofs.YtgelkakjmbiibaaGreatDoor.ints e) ps xs)) (hp : InPool ps xs u x) : Ent own fun w => Ints w u x := by
  obtain ⟨q, h1, h2, rfl, rfl⟩ := hp
  exact Ent.manyInts h ⟨h1, h2⟩
def plD (l : List (List Int × Value)) (is : List Nat) (k : Nat) : List Int := (l.getD (is.getD k 0) ([], undef)).1
theorem atPl_len {l : List (List Int × Value)} {is : List Nat} (h : is.Perm (List.range l.length)) : (atPl l is).length = l.length := by simpa [atPl] using h.length_eq
theorem pl_mem {l : List (List Int × Value)} {is : List Nat} (h : is.Perm (List.range l.length)) {k : Nat} (hk : k < (atPl l is).length) : l.getD (is.getD k 0) ([], undef) ∈ l := by
  have hk2 : k < is.length := by simpa [atPl] using hk
  have h1 : is.getD k 0 ∈ is := by
    rw [List.getD_eq_getElem?_getD, List.getElem?_eq_getElem hk2]
    exact List.getElem_mem hk2
  have h2 := List.mem_range.1 (h.mem_iff.1 h1)
  rw [List.getD_eq_getElem?_getD, List.getElem?_eq_getElem h2]
  exact List.getElem_mem h2
theorem pool_at {l : List (List Int × Value)} {is : List Nat} {ps : List Value} {xs : List (List Int)} {k : Nat} (h : ∀ p ∈ l, InPool ps xs p.2 p.1) (hp : is.Perm (List.range l.length)) (hk : k < (atPl l is).length) : InPool ps xs ((atPl l is).getD k undef) (plD l is k) := by
  have hk2 : k < is.length := by simpa [atPl] using hk
  have e : (atPl l is).getD k undef = (l.getD (is.getD k 0) ([], undef)).2 := by simp [atPl, List.getD, hk2]
  rw [e]
  exact h _ (pl_mem hp hk)
theorem pl_key {l : List (List Int × Value)} {is : List Nat} (h : is.Perm (List.range l.length)) {k : Nat} (hk : k < (atPl l is).length) : plD l is k ∈ l.map (·.1) := List.mem_map.2 ⟨_, pl_mem h hk, rfl⟩
theorem key_pl {l : List (List Int × Value)} {is : List Nat} (h : is.Perm (List.range l.length)) {z : List Int} (hz : z ∈ l.map (·.1)) : ∃ k, k < (atPl l is).length ∧ plD l is k = z := by
  obtain ⟨p, hp, rfl⟩ := List.mem_map.1 hz
  obtain ⟨i, hi, e⟩ := List.getElem_of_mem hp
  obtain ⟨k, hk, e2⟩ := List.getElem_of_mem (h.mem_iff.2 (List.mem_range.2 hi))
  refine ⟨k, by simpa [atPl] using hk, ?_⟩
  rw [plD, List.getD_eq_getElem?_getD (l := is), List.getElem?_eq_getElem hk, Option.getD_some, e2, List.getD_eq_getElem?_getD, List.getElem?_eq_getElem hi, Option.getD_some, e]
section
variable {α β : Type} [DecidableEq α]
theorem aup_mem {k : α} {v : β} {p : α × β} : ∀ {l : List (α × β)}, p ∈ aup k v l → p = (k, v) ∨ p ∈ l
  | [], h => .inl (List.mem_singleton.1 h)
  | (a, b) :: t, h => by
    rw [aup] at h
    split at h
    · rename_i e
      rcases List.mem_cons.1 h with h | h
      · exact .inl (by rw [h, e])
      · exact .inr (List.mem_cons_of_mem _ h)
    · rcases List.mem_cons.1 h with h | h
      · exact .inr (by rw [h]; exact List.mem_cons_self)
      · rcases aup_mem h with h | h
        · exact .inl h
        · exact .inr (List.mem_cons_of_mem _ h)
theorem aup_keys {k : α} {v : β} : ∀ {l : List (α × β)}, (aup k v l).map (·.1) = if k ∈ l.map (·.1) then l.map (·.1) else l.map (·.1) ++ [k]
  | [] => by simp [aup]
  | (a, b) :: t => by
    rw [aup]
    split
    · rename_i e
      simp [e]
    · rename_i e
      rw [List.map_cons, aup_keys (l := t), List.map_cons]
      by_cases hk : k ∈ t.map (·.1)
      · rw [if_pos hk, if_pos (List.mem_cons_of_mem _ hk)]
      · rw [if_neg hk, if_neg (fun h => (List.mem_cons.1 h).elim e hk)]
        rfl
theorem aup_key {k z : α} {v : β} {l : List (α × β)} : z ∈ (aup k v l).map (·.1) ↔ z ∈ l.map (·.1) ∨ z = k := by
  rw [aup_keys]
  split
  · rename_i h
    constructor
    · exact .inl
    · rintro (h2 | rfl)
      · exact h2
      · exact h
  · rw [List.mem_append, List.mem_singleton]
theorem aup_nod {k : α} {v : β} {l : List (α × β)} (h : (l.map (·.1)).Nodup) : ((aup k v l).map (·.1)).Nodup := by
  rw [aup_keys]
  split
  · exact h
  · rename_i hn
    rw [List.nodup_append]
    exact ⟨h, by simp, fun x hx y hy => by rw [List.mem_singleton.1 hy]; exact fun e => hn (e ▸ hx)⟩
theorem alu_key {k : α} : ∀ {l : List (α × β)}, (alu k l).isSome = true ↔ k ∈ l.map (·.1)
  | [] => by simp [alu]
  | (a, b) :: t => by
    rw [alu]
    split
    · rename_i e
      simp [e]
    · rename_i e
      rw [alu_key, List.map_cons, List.mem_cons]
      exact ⟨.inr, fun h => h.elim (fun h => absurd h e) id⟩
end
section
variable {n : Int} {d : List Int}
theorem act_acN (hS : (tyS n d).isSome = true) {u : List Int} (hu : rngW n u) : actF n d u (ones n 1) = acN n d u (ones n 1) := WlOk.belLen.acN_act (wlOk hS) hu
theorem act_reach (hS : (tyS n d).isSome = true) {u : List Int} (hu : rngW n u) : Reach n d (actF n d u (ones n 1)) := by
  rw [act_acN hS hu]
  exact acN_reach hu
theorem reach_ent (hS : (tyS n d).isSome = true) {z : List Int} (hz : Reach n d z) : (z.length : Int) = n ∧ (∀ k, -100 ≤ z.getD k 0 ∧ z.getD k 0 ≤ 100) ∧ All64 z := by
  have hW := wlOk hS
  have h4 := (tyS_ok hS).1
  have h1 := (hz.inv hW.co).1
  have h2 := hW.ent hz
  refine ⟨by omega, h2, fun y hy => ?_⟩
  obtain ⟨k, hk, rfl⟩ := List.getElem_of_mem hy
  have := h2 k
  rw [List.getD_eq_getElem?_getD, List.getElem?_eq_getElem hk, Option.getD_some] at this
  unfold I64
  omega
theorem sub_reach (hS : (tyS n d).isSome = true) {t z : List Int} (ht : rngW n t) (hz : subM n d t z) : Reach n d z := (subM_len (wlOk hS) ht hz).1
theorem keys_few (hS : (tyS n d).isSome = true) {l : List (List Int × Value)} {t : List Int} (ht : rngW n t) (hn : (l.map (·.1)).Nodup) (hk : ∀ z, z ∈ l.map (·.1) ↔ subM n d t z) : l.length ≤ 1200 := by
  have := (wlOk hS).few hn fun v hv => sub_reach hS ht ((hk v).1 hv)
  simpa using this
theorem drop_at {w : List Int} {j : Nat} (h : 1 ≤ j) (hj : j ≤ w.length) : w.drop (j - 1) = w.getD (j - 1) 0 :: w.drop j := by
  rw [List.getD_eq_getElem?_getD, List.getElem?_eq_getElem (by omega), Option.getD_some, List.drop_eq_getElem_cons (by omega)]
  congr 2
  omega
theorem below_step {t : List Int} {l m : List (List Int × Value)} {is : List Nat} {c : Int} (hk : ∀ z, z ∈ l.map (·.1) ↔ subM n d t z) (hp : is.Perm (List.range l.length)) (hm : ∀ z, z ∈ m.map (·.1) ↔ z ∈ l.map (·.1) ∨ ∃ i, i < (atPl l is).length ∧ z = rfF n d c (plD l is i)) : ∀ z, z ∈ m.map (·.1) ↔ subM n d (c :: t) z := fun z => by
  rw [hm, subM, hk]
  constructor
  · rintro (h | ⟨i, hi, e⟩)
    · exact .inl h
    · exact .inr ⟨_, (hk _).1 (pl_key hp hi), e⟩
  · rintro (h | ⟨w, hw, e⟩)
    · exact .inl h
    · obtain ⟨i, hi, e2⟩ := key_pl hp ((hk w).2 hw)
      exact .inr ⟨i, hi, by rw [e2]; exact e⟩
theorem below_next {K : List Int → Prop} {f : Nat → List Int} {a : Nat} {m : List (List Int × Value)} {v : Value} (h : ∀ z, z ∈ m.map (·.1) ↔ K z ∨ ∃ i, i < a ∧ z = f i) : ∀ z, z ∈ (aup (f a) v m).map (·.1) ↔ K z ∨ ∃ i, i < a + 1 ∧ z = f i := fun z => by
  rw [aup_key, h]
  constructor
  · rintro ((h1 | ⟨i, hi, e⟩) | e)
    · exact .inl h1
    · exact .inr ⟨i, by omega, e⟩
    · exact .inr ⟨a, by omega, e⟩
  · rintro (h1 | ⟨i, hi, e⟩)
    · exact .inl (.inl h1)
    · by_cases hia : i = a
      · exact .inr (by rw [e, hia])
      · exact .inl (.inr ⟨i, by omega, e⟩)
theorem rngW_drop {w : List Int} {j : Nat} (h : rngW n w) : rngW n (w.drop j) := fun y hy => h y (List.mem_of_mem_drop hy)
theorem rngW_at {w : List Int} {j : Nat} (h : rngW n w) (hj : j < w.length) : 0 ≤ w.getD j 0 ∧ w.getD j 0 < n := by
  rw [List.getD_eq_getElem?_getD, List.getElem?_eq_getElem hj, Option.getD_some]
  exact h _ (List.getElem_mem hj)
def isbF (n : Int) (d u v : List Int) : Bool := blS n d 60 (actF n d u (ones n 1)) (actF n d v (ones n 1))
def isbOf (n : Int) (d u v : List Int) : Bool := wordB n d u && wordB n d v && isbF n d u v
theorem isbF_iff (hS : (tyS n d).isSome = true) {u v : List Int} (hu : rngW n u) (hv : rngW n v) : isbF n d u v = true ↔ Bel n (prR n d) (acN n d u (ones n 1)) (acN n d v (ones n 1)) := by
  have hW := wlOk hS
  have hR := (rpOk hS).1
  have h24 := lnW_le hW.co (actF n d v (ones n 1))
  rw [isbF, hW.bl hR 60 (act_reach hS hu) (act_reach hS hv) (by omega), act_acN hS hu, act_acN hS hv]
theorem isb_end (hS : (tyS n d).isSome = true) {u v : List Int} (hu : rngW n u) (hv : rngW n v) {l : List (List Int × Value)} (hk : ∀ z, z ∈ l.map (·.1) ↔ subM n d (nwF n d (actF n d v (ones n 1))) z) : (alu (actF n d u (ones n 1)) l).isSome = isbF n d u v := by
  have hW := wlOk hS
  have hR := (rpOk hS).1
  rw [Bool.eq_iff_iff, alu_key, hk, ← hW.belSub hR (phOk hS) (act_reach hS hv), isbF_iff hS hu hv, act_acN hS hu, act_acN hS hv]
  exact ⟨fun h => h.2, fun h => ⟨acN_reach hu, h⟩⟩
theorem nw_rngA (hS : (tyS n d).isSome = true) {v : List Int} (hv : rngW n v) : rngW n (nwF n d (actF n d v (ones n 1))) := nw_rng (wlOk hS) (phOk hS) (act_reach hS hv)
end
end Go.Proofs.YtgelkakjmbiibaaGreatDoor
