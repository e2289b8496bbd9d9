/-
  What is below an element: what the first text reaches and what the second one tests, in plain words; lists that lie in a pool.
-/
import Derived.Test.YtgelkakjmbiibaaGreatDoorZ28
import Derived.Test.YtgelkakjmbiibaaGreatDoorBlC
import Derived.Test.YtgelkakjmbiibaaGreatDoorCol
import Derived.Test.YtgelkakjmbiibaaGreatDoorGrt
import Derived.Test.YtgelkakjmbiibaaGreatDoorGrC
import Derived.Test.YtgelkakjmbiibaaGreatDoorZ31
import Derived.Test.YtgelkakjmbiibaaGreatDoorZ23
import Derived.Test.YtgelkakjmbiibaaGreatDoorLct
namespace Go.Proofs.YtgelkakjmbiibaaGreatDoor
set_option linter.unusedVariables false
set_option linter.unusedSimpArgs false
open Go.RowKit
def InPool (ps : List Value) (xs : List (List Int)) (u : Value) (x : List Int) : Prop := ∃ q, q < ps.length ∧ q < xs.length ∧ ps.getD q undef = u ∧ xs.getD q [] = x
theorem InPool.snoc {ps : List Value} {xs : List (List Int)} {u v : Value} {x y : List Int} (h : InPool ps xs u x) : InPool (ps ++ [v]) (xs ++ [y]) u x := by
  obtain ⟨q, h1, h2, h3, h4⟩ := h
  refine ⟨q, by rw [List.length_append]; omega, by rw [List.length_append]; omega, ?_, ?_⟩
  · rw [List.getD_eq_getElem?_getD, List.getElem?_append_left h1, ← List.getD_eq_getElem?_getD]; exact h3
  · rw [List.getD_eq_getElem?_getD, List.getElem?_append_left h2, ← List.getD_eq_getElem?_getD]; exact h4
theorem InPool.last {ps : List Value} {xs : List (List Int)} {v : Value} {y : List Int} (h : ps.length = xs.length) : InPool (ps ++ [v]) (xs ++ [y]) v y := by
  refine ⟨ps.length, by simp, by simp [h], by simp [List.getD], ?_⟩
  rw [h]
  simp [List.getD]
theorem Ent.pool {own : List Asn} {i e : Nat} {ps : List Value} {xs : List (List Int)} {u : Value} {x : List Int} (h : own[i]? = some (Proofs.YtgelkakjmbiibaaGreatDoor.many (Proofs.YtgelkakjmbiibaaGreatDoor.ints e) ps xs)) (hp : InPool ps xs u x) : Ent own fun w => Ints w u x := by
  obtain ⟨q, h1, h2, rfl, rfl⟩ := hp
  exact Ent.manyInts h ⟨h1, h2⟩
def plD (l : List (List Int × Value)) (is : List Nat) (k : Nat) : List Int := (l.getD (is.getD k 0) ([], undef)).1
theorem atPl_len {l : List (List Int × Value)} {is : List Nat} (h : is.Perm (List.range l.length)) : (atPl l is).length = l.length := by simpa [atPl] using h.length_eq
theorem pl_mem {l : List (List Int × Value)} {is : List Nat} (h : is.Perm (List.range l.length)) {k : Nat} (hk : k < (atPl l is).length) : l.getD (is.getD k 0) ([], undef) ∈ l := by
  have hk2 : k < is.length := by simpa [atPl] using hk
  have h1 : is.getD k 0 ∈ is := by
    rw [List.getD_eq_getElem?_getD, List.getElem?_eq_getElem hk2]
    exact List.getElem_mem hk2
  have h2 := List.mem_range.1 (h.mem_iff.1 h1)
  rw [List.getD_eq_getElem?_getD, List.getElem?_eq_getElem h2]
  exact List.getElem_mem h2
theorem pool_at {l : List (List Int × Value)} {is : List Nat} {ps : List Value} {xs : List (List Int)} {k : Nat} (h : ∀ p ∈ l, InPool ps xs p.2 p.1) (hp : is.Perm (List.range l.length)) (hk : k < (atPl l is).length) : InPool ps xs ((atPl l is).getD k undef) (plD l is k) := by
  have hk2 : k < is.length := by simpa [atPl] using hk
  have e : (atPl l is).getD k undef = (l.getD (is.getD k 0) ([], undef)).2 := by simp [atPl, List.getD, hk2]
  rw [e]
  exact h _ (pl_mem hp hk)
theorem pl_key {l : List (List Int × Value)} {is : List Nat} (h : is.Perm (List.range l.length)) {k : Nat} (hk : k < (atPl l is).length) : plD l is k ∈ l.map (·.1) := List.mem_map.2 ⟨_, pl_mem h hk, rfl⟩
theorem key_pl {l : List (List Int × Value)} {is : List Nat} (h : is.Perm (List.range l.length)) {z : List Int} (hz : z ∈ l.map (·.1)) : ∃ k, k < (atPl l is).length ∧ plD l is k = z := by
  obtain ⟨p, hp, rfl⟩ := List.mem_map.1 hz
  obtain ⟨i, hi, e⟩ := List.getElem_of_mem hp
  obtain ⟨k, hk, e2⟩ := List.getElem_of_mem (h.mem_iff.2 (List.mem_range.2 hi))
  refine ⟨k, by simpa [atPl] using hk, ?_⟩
  rw [plD, List.getD_eq_getElem?_getD (l := is), List.getElem?_eq_getElem hk, Option.getD_some, e2, List.getD_eq_getElem?_getD, List.getElem?_eq_getElem hi, Option.getD_some, e]
section
variable {α β : Type} [DecidableEq α]
theorem aup_mem {k : α} {v : β} {p : α × β} : ∀ {l : List (α × β)}, p ∈ aup k v l → p = (k, v) ∨ p ∈ l
  | [], h => .inl (List.mem_singleton.1 h)
  | (a, b) :: t, h => by
    rw [aup] at h
    split at h
    · rename_i e
      rcases List.mem_cons.1 h with h | h
      · exact .inl (by rw [h, e])
      · exact .inr (List.mem_cons_of_mem _ h)
    · rcases List.mem_cons.1 h with h | h
      · exact .inr (by rw [h]; exact List.mem_cons_self)
      · rcases aup_mem h with h | h
        · exact .inl h
        · exact .inr (List.mem_cons_of_mem _ h)
theorem aup_keys {k : α} {v : β} : ∀ {l : List (α × β)}, (aup k v l).map (·.1) = if k ∈ l.map (·.1) then l.map (·.1) else l.map (·.1) ++ [k]
  | [] => by simp [aup]
  | (a, b) :: t => by
    rw [aup]
    split
    · rename_i e
      simp [e]
    · rename_i e
      rw [List.map_cons, aup_keys (l := t), List.map_cons]
      by_cases hk : k ∈ t.map (·.1)
      · rw [if_pos hk, if_pos (List.mem_cons_of_mem _ hk)]
      · rw [if_neg hk, if_neg (fun h => (List.mem_cons.1 h).elim e hk)]
        rfl
theorem aup_key {k z : α} {v : β} {l : List (α × β)} : z ∈ (aup k v l).map (·.1) ↔ z ∈ l.map (·.1) ∨ z = k := by
  rw [aup_keys]
  split
  · rename_i h
    constructor
    · exact .inl
    · rintro (h2 | rfl)
      · exact h2
      · exact h
  · rw [List.mem_append, List.mem_singleton]
theorem aup_nod {k : α} {v : β} {l : List (α × β)} (h : (l.map (·.1)).Nodup) : ((aup k v l).map (·.1)).Nodup := by
  rw [aup_keys]
  split
  · exact h
  · rename_i hn
    rw [List.nodup_append]
    exact ⟨h, by simp, fun x hx y hy => by rw [List.mem_singleton.1 hy]; exact fun e => hn (e ▸ hx)⟩
theorem alu_key {k : α} : ∀ {l : List (α × β)}, (alu k l).isSome = true ↔ k ∈ l.map (·.1)
  | [] => by simp [alu]
  | (a, b) :: t => by
    rw [alu]
    split
    · rename_i e
      simp [e]
    · rename_i e
      rw [alu_key, List.map_cons, List.mem_cons]
      exact ⟨.inr, fun h => h.elim (fun h => absurd h e) id⟩
end
section
variable {n : Int} {d : List Int}
theorem act_acN (hS : (tyS n d).isSome = true) {u : List Int} (hu : rngW n u) : actF n d u (ones n 1) = acN n d u (ones n 1) := WlOk.belLen.acN_act (wlOk hS) hu
theorem act_reach (hS : (tyS n d).isSome = true) {u : List Int} (hu : rngW n u) : Reach n d (actF n d u (ones n 1)) := by
  rw [act_acN hS hu]
  exact acN_reach hu
theorem reach_ent (hS : (tyS n d).isSome = true) {z : List Int} (hz : Reach n d z) : (z.length : Int) = n ∧ (∀ k, -100 ≤ z.getD k 0 ∧ z.getD k 0 ≤ 100) ∧ All64 z := by
  have hW := wlOk hS
  have h4 := (tyS_ok hS).1
  have h1 := (hz.inv hW.co).1
  have h2 := hW.ent hz
  refine ⟨by omega, h2, fun y hy => ?_⟩
  obtain ⟨k, hk, rfl⟩ := List.getElem_of_mem hy
  have := h2 k
  rw [List.getD_eq_getElem?_getD, List.getElem?_eq_getElem hk, Option.getD_some] at this
  unfold I64
  omega
theorem sub_reach (hS : (tyS n d).isSome = true) {t z : List Int} (ht : rngW n t) (hz : subM n d t z) : Reach n d z := (subM_len (wlOk hS) ht hz).1
theorem keys_few (hS : (tyS n d).isSome = true) {l : List (List Int × Value)} {t : List Int} (ht : rngW n t) (hn : (l.map (·.1)).Nodup) (hk : ∀ z, z ∈ l.map (·.1) ↔ subM n d t z) : l.length ≤ 1200 := by
  have := (wlOk hS).few hn fun v hv => sub_reach hS ht ((hk v).1 hv)
  simpa using this
theorem drop_at {w : List Int} {j : Nat} (h : 1 ≤ j) (hj : j ≤ w.length) : w.drop (j - 1) = w.getD (j - 1) 0 :: w.drop j := by
  rw [List.getD_eq_getElem?_getD, List.getElem?_eq_getElem (by omega), Option.getD_some, List.drop_eq_getElem_cons (by omega)]
  congr 2
  omega
theorem below_step {t : List Int} {l m : List (List Int × Value)} {is : List Nat} {c : Int} (hk : ∀ z, z ∈ l.map (·.1) ↔ subM n d t z) (hp : is.Perm (List.range l.length)) (hm : ∀ z, z ∈ m.map (·.1) ↔ z ∈ l.map (·.1) ∨ ∃ i, i < (atPl l is).length ∧ z = rfF n d c (plD l is i)) : ∀ z, z ∈ m.map (·.1) ↔ subM n d (c :: t) z := fun z => by
  rw [hm, subM, hk]
  constructor
  · rintro (h | ⟨i, hi, e⟩)
    · exact .inl h
    · exact .inr ⟨_, (hk _).1 (pl_key hp hi), e⟩
  · rintro (h | ⟨w, hw, e⟩)
    · exact .inl h
    · obtain ⟨i, hi, e2⟩ := key_pl hp ((hk w).2 hw)
      exact .inr ⟨i, hi, by rw [e2]; exact e⟩
theorem below_next {K : List Int → Prop} {f : Nat → List Int} {a : Nat} {m : List (List Int × Value)} {v : Value} (h : ∀ z, z ∈ m.map (·.1) ↔ K z ∨ ∃ i, i < a ∧ z = f i) : ∀ z, z ∈ (aup (f a) v m).map (·.1) ↔ K z ∨ ∃ i, i < a + 1 ∧ z = f i := fun z => by
  rw [aup_key, h]
  constructor
  · rintro ((h1 | ⟨i, hi, e⟩) | e)
    · exact .inl h1
    · exact .inr ⟨i, by omega, e⟩
    · exact .inr ⟨a, by omega, e⟩
  · rintro (h1 | ⟨i, hi, e⟩)
    · exact .inl (.inl h1)
    · by_cases hia : i = a
      · exact .inr (by rw [e, hia])
      · exact .inl (.inr ⟨i, by omega, e⟩)
theorem rngW_drop {w : List Int} {j : Nat} (h : rngW n w) : rngW n (w.drop j) := fun y hy => h y (List.mem_of_mem_drop hy)
theorem rngW_at {w : List Int} {j : Nat} (h : rngW n w) (hj : j < w.length) : 0 ≤ w.getD j 0 ∧ w.getD j 0 < n := by
  rw [List.getD_eq_getElem?_getD, List.getElem?_eq_getElem hj, Option.getD_some]
  exact h _ (List.getElem_mem hj)
def isbF (n : Int) (d u v : List Int) : Bool := blS n d 60 (actF n d u (ones n 1)) (actF n d v (ones n 1))
def isbOf (n : Int) (d u v : List Int) : Bool := wordB n d u && wordB n d v && isbF n d u v
theorem isbF_iff (hS : (tyS n d).isSome = true) {u v : List Int} (hu : rngW n u) (hv : rngW n v) : isbF n d u v = true ↔ Bel n (prR n d) (acN n d u (ones n 1)) (acN n d v (ones n 1)) := by
  have hW := wlOk hS
  have hR := (rpOk hS).1
  have h24 := lnW_le hW.co (actF n d v (ones n 1))
  rw [isbF, hW.bl hR 60 (act_reach hS hu) (act_reach hS hv) (by omega), act_acN hS hu, act_acN hS hv]
theorem isb_end (hS : (tyS n d).isSome = true) {u v : List Int} (hu : rngW n u) (hv : rngW n v) {l : List (List Int × Value)} (hk : ∀ z, z ∈ l.map (·.1) ↔ subM n d (nwF n d (actF n d v (ones n 1))) z) : (alu (actF n d u (ones n 1)) l).isSome = isbF n d u v := by
  have hW := wlOk hS
  have hR := (rpOk hS).1
  rw [Bool.eq_iff_iff, alu_key, hk, ← hW.belSub hR (phOk hS) (act_reach hS hv), isbF_iff hS hu hv, act_acN hS hu, act_acN hS hv]
  exact ⟨fun h => h.2, fun h => ⟨acN_reach hu, h⟩⟩
theorem nw_rngA (hS : (tyS n d).isSome = true) {v : List Int} (hv : rngW n v) : rngW n (nwF n d (actF n d v (ones n 1))) := nw_rng (wlOk hS) (phOk hS) (act_reach hS hv)
end
end Go.Proofs.YtgelkakjmbiibaaGreatDoor

namespace Go.Proofs.YtgelkakjmbiibaaGreatDoor
set_option linter.unusedVariables false
set_option linter.unusedSimpArgs false
section
variable {n : Int} {d : List Int} {R : List (List Int)} {w : List Int}
theorem wordB_of {n : Int} {d t : List Int} (hS : (tyS n d).isSome = true) (ht : rngW n t) (hl : t.length ≤ 60) : wordB n d t = true := by
  rw [wordB, hS, Bool.true_and, wdOk, decide_eq_true (by omega), Bool.true_and, Bool.not_eq_true']
  refine List.any_eq_false.2 fun y hy => ?_
  have := ht y hy
  simp [inB, this.1, show y ≤ n - 1 by omega]
structure WdLaw (n : Int) (d u v w : List Int) : Prop where
  wv : wordB n d v = true
  wu : wordB n d u = true
  nv : nwOf n d v = nwF n d (actF n d v (ones n 1))
  wx : wordB n d (nwOf n d v) = true
  same : seB n d v (nwOf n d v) = true
  again : nwOf n d (nwOf n d v) = nwOf n d v
  len : ∃ q : Nat, v.length = (nwOf n d v).length + 2 * q
  act : actOf n d v w = actOf n d (nwOf n d v) w
  app : actOf n d u (actOf n d v w) = actOf n d (u ++ v) w
  root : actOf n d v (wtOf n d w) = wtOf n d (arOf n d v w)
  back : (ivOf n d v).length = (nwOf n d v).length
  undo : (nwOf n d (v ++ ivOf n d v)).length = 0
  iff : seB n d u v = samB (nwOf n d u) (nwOf n d v)
end
theorem anyF_true {p : List Int → Bool} {L : List (List Int)} {i : Nat} {f : Bool} (hf : f = (L.take i).any p) (h : f = true) : true = (L.take (i + 1)).any p := by
  rw [List.take_add_one, List.any_append, ← hf, h, Bool.true_or]
theorem anyF_false {p : List Int → Bool} {L : List (List Int)} {i : Nat} {f : Bool} (hi : i < L.length) (hf : f = (L.take i).any p) (h : f = false) : p (L.getD i []) = (L.take (i + 1)).any p := by
  rw [List.take_add_one, List.any_append, ← hf, h, Bool.false_or, List.getElem?_eq_getElem hi, List.getD, List.getElem?_eq_getElem hi]
  simp
theorem anyF_all {L : List (List Int)} {i : Nat} {f : Bool} {M : List Int} (hi : L.length ≤ i) (hf : f = (L.take i).any (fun q => samB q M)) (hm : M ∈ L) : f = true := by
  rw [hf, List.take_of_length_le hi, List.any_eq_true]
  exact ⟨M, hm, samB_of rfl⟩
end Go.Proofs.YtgelkakjmbiibaaGreatDoor

namespace Go.Proofs.YtgelkakjmbiibaaGreatDoor
set_option linter.unusedVariables false
set_option linter.unusedSimpArgs false
def chkI (n : Int) (d : List Int) : Bool := ((rSt n d).all fun x => (x.length == n.toNat) && x.all fun y => inB y (-20) 20) && (oAll n d (ones n 1)).all fun w => ((rSt n d).filter (ivB n d (nwF n d w))).length == (nwF n d w).length
set_option maxRecDepth 100000 in
theorem chkI_all : (List.range 10).all (fun k => chkI (smN k) (smD k)) = true := by decide +kernel
theorem invLen {k : Nat} (hk : k < 10) {v : List Int} (hv : rngW (smN k) v) (hvl : v.length ≤ 60) : (ivL (smN k) (smD k) v).length = (nwOf (smN k) (smD k) v).length := by
  obtain ⟨hS, g, gt⟩ := grOk hk
  have hc := List.all_eq_true.1 chkI_all k (List.mem_range.2 hk)
  generalize smN k = n at *
  generalize smD k = d at *
  have h := wlOk hS
  have hp := phOk hS
  rw [chkI, Bool.and_eq_true] at hc
  have wv := wordB_of hS hv hvl
  have hw := acN_reach (d := d) hv
  have e := (g.word h hp hv).1
  rw [ivL, if_pos wv, nwOf, if_pos wv, e]
  have h2 := List.all_eq_true.1 hc.2 _ (h.orAll hw)
  rw [beq_iff_eq] at h2
  rw [← h2]
  congr 1
  refine List.filter_congr fun r hr => ?_
  have h3 := List.all_eq_true.1 hc.1 r hr
  rw [Bool.and_eq_true, beq_iff_eq] at h3
  have hb : ∀ q, q < n.toNat → -20 ≤ r.getD q 0 ∧ r.getD q 0 ≤ 20 := fun q _ => getD_inB h3.2 (by omega) q
  unfold ivB
  rw [gt.act g.n4 h hp (B := 20) (by omega) h3.1 hb hv, gt.act g.n4 h hp (B := 20) (by omega) h3.1 hb (nw_rng h hp hw), gt.norm h hp hv h3.1]
end Go.Proofs.YtgelkakjmbiibaaGreatDoor

namespace Go.Proofs.YtgelkakjmbiibaaGreatDoor
set_option linter.unusedVariables false
set_option linter.unusedSimpArgs false
theorem left_all {its : List PIt} {θ : Nat → List Value} {X : List Asn} {d : Nat} {ds : List (Nat × Nat)} {rd : List Nat} {nd : List Nat} {vl : List (List Value) → Value} {g : Nat → List Value} {ps : List (List Value) → Prop} : depRes its θ rd ++ X = (PIt.mk d ds rd [] nd vl ps (fun _ => [])).R g ++ (depRes its θ (PIt.mk d ds rd [] nd vl ps (fun _ => [])).left ++ X) := by
  have h : (PIt.mk d ds rd [] nd vl ps (fun _ => [])).left = rd := by simp [PIt.left]
  rw [h]; rfl
section
variable {n : Int} {d : List Int} {R : List (List Int)} {P : List (List Int × List Int)}
theorem acN_mn : ∀ {word : List Int}, rngW n word → ∀ w : List Int, acN n d word (mnF w) = mnF (acN n d word w)
  | [], _, _ => rfl
  | i :: t, h, w => by
    have hi := h i List.mem_cons_self
    show rp n d i.toNat (acN n d t (mnF w)) = mnF (rp n d i.toNat (acN n d t w))
    rw [acN_mn (fun y hy => h y (List.mem_cons_of_mem _ hy)) w, rp_mn (by omega)]
theorem mnF_two (z : List Int) : mnF (mnF z) = z := by
  refine ext_getD (by rw [mnF_len, mnF_len]) fun k _ => ?_
  rw [mnF_getT, mnF_getT]
  omega
theorem WlOk.allBel (h : WlOk n d R) (hP : RpOk n d P) : ∀ (f : Nat) {z : List Int}, Reach n d z → R.length - lnW n R z < f → Bel n P z (mnF (ones n 1))
  | 0, _, _, hf => absurd hf (Nat.not_lt_zero _)
  | f + 1, z, hz, hf => by
    have hl := (hz.inv h.co).1
    by_cases hp : ∃ i, i < n.toNat ∧ 0 < z.getD i 0
    · obtain ⟨i, hi, h0⟩ := hp
      have h1 := (h.co.ln hi z (by omega)).1 h0
      have h2 := h.lnR (rp n d i z)
      have ih := h.allBel hP f (hz.step hi) (by omega)
      exact .head (Arr.simple hP hi h0) ih
    · have hneg : ∀ k, k < n.toNat → 0 ≤ (mnF z).getD k 0 := fun k hk => by
        rw [mnF_getT]
        apply Classical.byContradiction
        intro hn
        exact hp ⟨k, hk, by omega⟩
      have := (hz.mn h).dom h.co hneg
      rw [← this, mnF_two]
      exact .refl _
end
theorem nwOf_eq {n : Int} {d v : List Int} (h : wordB n d v = true) : nwOf n d v = nwF n d (actF n d v (ones n 1)) := by rw [nwOf, if_pos h]
structure BeLaw (n : Int) (d u v : List Int) : Prop where
  wu : wordB n d u = true
  wv : wordB n d v = true
  part : ∀ p : List Int, p.Sublist (nwOf n d v) → isbOf n d p v = true
  self : isbOf n d v v = true
  len : isbOf n d u v = true → (nwOf n d u).length ≤ (nwOf n d v).length
  anti : isbOf n d u v = true → isbOf n d v u = seB n d u v
  inv : isbOf n d (ivOf n d u) (ivOf n d v) = isbOf n d u v
  nl : (nwOf n d v).length ≤ 24
structure LgLaw (n : Int) (d v : List Int) : Prop where
  wl : wordB n d (lwOf n d) = true
  rng : rngW n (lwOf n d)
  len : (lwOf n d).length = (rSt n d).length
  l24 : (lwOf n d).length ≤ 24
  nw : nwOf n d (lwOf n d) = lwOf n d
  inv : ivOf n d (lwOf n d) = lwOf n d
  wv : wordB n d v = true
  el : ∀ y ∈ elOf n d ((nwOf n d v).length : Int), y.length = (nwOf n d v).length ∧ nwOf n d y = y
  mem : nwOf n d v ∈ elOf n d ((nwOf n d v).length : Int)
  klt : (nwOf n d v).length < (lcOf n d).length
  cnt : ((elOf n d ((nwOf n d v).length : Int)).length : Int) = (lcOf n d).getD (nwOf n d v).length 0
  bel : isbOf n d v (lwOf n d) = true
  nl : (nwOf n d v).length ≤ 24
theorem GrOk.lgLaw {n : Int} {d : List Int} (g : GrOk n d) (hS : (tyS n d).isSome = true) {v : List Int} (hv : rngW n v) (hvl : v.length ≤ 60) : LgLaw n d v := by
  have h := wlOk hS
  have hp := phOk hS
  have hP := (rpOk hS).1
  have hR := (rpOk hS).2
  obtain ⟨a1, a2, a3, a4, a5, a6⟩ := g.word h hp hv
  have wv := wordB_of hS hv hvl
  have rv := acN_reach (d := d) hv
  have nv := nwOf_eq wv
  have rl := Reach.neg1 h
  have el : lwOf n d = nwF n d (mnF (ones n 1)) := by rw [lwOf, if_pos hS, lwF, ← mnF_ones]
  obtain ⟨c1, c2, c3⟩ := h.nw hp rl
  have l0 : lnW n (coR n d) (ones n 1) = 0 := (((h.lev 0).2 _).1 (List.mem_singleton.2 rfl)).2
  have lm := lnW_mn h Reach.one
  have hlR := lnW_le h.co (mnF (ones n 1))
  have ll : (nwF n d (mnF (ones n 1))).length = (rSt n d).length := by rw [c1]; omega
  have wl : wordB n d (nwF n d (mnF (ones n 1))) = true := wordB_of hS c3 (by omega)
  have e1 := (g.word h hp c3).1
  have e2 : acN n d (nwF n d (mnF (ones n 1))) (ones n 1) = mnF (ones n 1) := by rw [← e1, c2]
  have lo := ones_len n 1
  have e3 : acN n d (nwF n d (mnF (ones n 1))).reverse (ones n 1) = mnF (ones n 1) := by
    have hb := h.back c3 lo
    rw [e2, acN_mn (rngW_rev c3)] at hb
    rw [← mnF_two (acN n d (nwF n d (mnF (ones n 1))).reverse (ones n 1)), hb]
  have hel : ∀ y ∈ elOf n d ((nwOf n d v).length : Int), y ∈ elM n d (nwOf n d v).length := fun y hy => by
    rw [elOf_yes hS (by omega), Int.toNat_natCast, elF, List.mem_reverse] at hy
    exact (srt_perm _).mem_iff.1 hy
  refine ⟨by rw [el]; exact wl, by rw [el]; exact c3, by rw [el]; exact ll, by rw [el]; omega, ?_, ?_, wv, fun y hy => ?_, ?_, ?_, ?_, ?_, by rw [nv]; exact a5⟩
  · rw [el, nwOf_eq wl, c2]
  · rw [el, ivOf, if_pos wl, (g.word h hp (rngW_rev c3)).1, e3]
  · obtain ⟨w, hw, rfl⟩ := List.mem_map.1 (hel y hy)
    obtain ⟨hw1, hw2⟩ := List.mem_filter.1 hw
    have hwr := h.orR w hw1
    obtain ⟨f1, f2, f3⟩ := h.nw hp hwr
    have wy := wordB_of hS f3 (by have := lnW_le h.co w; omega)
    exact ⟨of_decide_eq_true hw2, by rw [nwOf_eq wy, f2]⟩
  · rw [elOf_yes hS (by omega), Int.toNat_natCast, elF, List.mem_reverse]
    refine (srt_perm _).mem_iff.2 (List.mem_map.2 ⟨acN n d v (ones n 1), List.mem_filter.2 ⟨h.orAll rv, ?_⟩, by rw [nv, a1]⟩)
    rw [nv, a1]
    exact decide_eq_true rfl
  · have e : (lcOf n d).length = (rSt n d).length + 1 := by rw [lcOf, if_pos hS]; simp [lcF]
    have := h.lnR (acN n d v (ones n 1))
    rw [e, nv, a1, (h.nw hp rv).1]
    omega
  · have hk : (nwOf n d v).length < (rSt n d).length + 1 := by
      have := h.lnR (acN n d v (ones n 1))
      rw [nv, a1, (h.nw hp rv).1]
      omega
    generalize (nwOf n d v).length = k at hk
    rw [elOf_yes hS (by omega), Int.toNat_natCast, elF, List.length_reverse, srt_len, lcOf, if_pos hS]
    have e : (lcF n d).getD k 0 = ((lvAt n d k).length : Int) := by simp [lcF, List.getD, hk]
    rw [e, ← (lv_words hS k).length_eq, List.length_map]
  · rw [el, isbOf, wv, wl, Bool.true_and, Bool.true_and, isbF_iff hS hv c3, e2]
    exact h.allBel hP _ rv (Nat.lt_succ_self _)
end Go.Proofs.YtgelkakjmbiibaaGreatDoor
