/-
  The order of Bruhat on the weights that the weight of ones is taken to: by reflections, by parts of a word, by what comes first in the greater one. No program is spoken of.
-/
import Derived.Test.YtmckgdekblphoaaGreatDoorWeyA
import Derived.Test.YtmckgdekblphoaaGreatDoorCarW
namespace Go.Proofs.YtmckgdekblphoaaGreatDoor
set_option linter.unusedVariables false
set_option linter.unusedSimpArgs false
def colW (n : Int) (d : List Int) (i : Nat) : List Int := (List.range n.toNat).map fun (k : Nat) => atI n d k i
def lowW (n : Int) (w : List Int) (c : Int) (β : List Int) : List Int := (List.range n.toNat).map fun (k : Nat) => w.getD k 0 - c * β.getD k 0
theorem lowW_len (n : Int) (w : List Int) (c : Int) (β : List Int) : (lowW n w c β).length = n.toNat := by simp [lowW]
theorem lowW_get {n : Int} {w β : List Int} {c : Int} {k : Nat} (hk : k < n.toNat) : (lowW n w c β).getD k 0 = w.getD k 0 - c * β.getD k 0 := by simp [lowW, List.getD, hk]
theorem colW_get {n : Int} {d : List Int} {i k : Nat} (hk : k < n.toNat) : (colW n d i).getD k 0 = atI n d k i := by simp [colW, List.getD, hk]
structure RpOk (n : Int) (d : List Int) (P : List (List Int × List Int)) : Prop where
  len : ∀ p ∈ P, p.2.length = n.toNat
  ge : ∀ p ∈ P, ∀ k, 0 ≤ p.2.getD k 0
  two : ∀ p ∈ P, prW n p.1 p.2 = 2
  unit : ∀ i, i < n.toNat → (colW n d i, unitL n.toNat i) ∈ P
  perm : ∀ p ∈ P, ∀ i, i < n.toNat → p = (colW n d i, unitL n.toNat i) ∨ (rp n d i p.1, coS n d p.2 i) ∈ P
def Arr (n : Int) (P : List (List Int × List Int)) (u v : List Int) : Prop := ∃ p ∈ P, 0 < prW n u p.2 ∧ v = lowW n u (prW n u p.2) p.1
inductive Bel (n : Int) (P : List (List Int × List Int)) : List Int → List Int → Prop
  | refl (u : List Int) : Bel n P u u
  | head {u v w : List Int} : Arr n P u v → Bel n P v w → Bel n P u w
theorem Bel.trans {n : Int} {P : List (List Int × List Int)} {u v w : List Int} (h1 : Bel n P u v) (h2 : Bel n P v w) : Bel n P u w := by
  induction h1 with
  | refl => exact h2
  | head a _ ih => exact .head a (ih h2)
def mnR (n : Int) (d : List Int) (i : Nat) (x : List Int) : List Int := if x.getD i 0 < 0 then rp n d i x else x
theorem lowW_col {n : Int} {d u : List Int} {i : Nat} : lowW n u (u.getD i 0) (colW n d i) = rp n d i u := by
  refine ext_getD (by rw [lowW_len, rp_len]) fun k hk => ?_
  rw [lowW_len] at hk
  rw [lowW_get hk, rp_get hk, colW_get hk]
section
variable {n : Int} {d : List Int} {R : List (List Int)} {P : List (List Int × List Int)}
theorem Arr.simple (hP : RpOk n d P) {u : List Int} {i : Nat} (hi : i < n.toNat) (h0 : 0 < u.getD i 0) : Arr n P u (rp n d i u) :=
  ⟨_, hP.unit i hi, by rw [prW_unit hi]; exact h0, by rw [prW_unit hi, lowW_col]⟩
theorem Arr.len {u v : List Int} (h : Arr n P u v) : v.length = n.toNat := by
  obtain ⟨_, _, _, rfl⟩ := h
  exact lowW_len _ _ _ _
theorem rp_low {u β : List Int} {c : Int} {i : Nat} (hi : i < n.toNat) : rp n d i (lowW n u c β) = lowW n (rp n d i u) c (rp n d i β) := by
  refine ext_getD (by rw [lowW_len, rp_len]) fun k hk => ?_
  rw [rp_len] at hk
  rw [rp_get hk, lowW_get hk, lowW_get hi, lowW_get hk, rp_get hk, rp_get hk, Int.sub_mul, Int.mul_sub, Int.mul_assoc]
  omega
theorem Arr.move (hc : CoOk n d R) (hP : RpOk n d P) {u v : List Int} (hl : u.length = n.toNat) (h : Arr n P u v) {i : Nat} (hi : i < n.toNat) : (v = rp n d i u ∧ 0 < u.getD i 0) ∨ Arr n P (rp n d i u) (rp n d i v) := by
  obtain ⟨p, hp, h0, rfl⟩ := h
  rcases hP.perm p hp i hi with rfl | hq
  · rw [prW_unit hi] at h0
    exact .inl ⟨by rw [prW_unit hi, lowW_col], h0⟩
  · have e : prW n (rp n d i u) (coS n d p.2 i) = prW n u p.2 := by
      have := prW_rp (d := d) (w := rp n d i u) hi (hP.len p hp)
      rw [rp_rp hc hi hl] at this
      exact this.symm
    exact .inr ⟨_, hq, by rw [e]; exact h0, by rw [e, rp_low hi]⟩
theorem mnR_le (hc : CoOk n d R) (hP : RpOk n d P) {x : List Int} (hl : x.length = n.toNat) {i : Nat} (hi : i < n.toNat) : Bel n P (mnR n d i x) x ∧ Bel n P (mnR n d i x) (rp n d i x) := by
  unfold mnR
  split
  · rename_i h
    refine ⟨?_, .refl _⟩
    have h1 : 0 < (rp n d i x).getD i 0 := by rw [rp_get hi, hc.two i hi]; omega
    have h2 := Arr.simple hP hi h1
    rw [rp_rp hc hi hl] at h2
    exact .head h2 (.refl _)
  · rename_i h
    refine ⟨.refl _, ?_⟩
    by_cases h0 : 0 < x.getD i 0
    · exact .head (Arr.simple hP hi h0) (.refl _)
    · have e : rp n d i x = x := by
        refine ext_getD (by rw [rp_len, hl]) fun k hk => ?_
        rw [rp_len] at hk
        rw [rp_get hk, show x.getD i 0 = 0 by omega]
        omega
      rw [e]
      exact .refl _
theorem mnR_rp (hc : CoOk n d R) {x : List Int} (hl : x.length = n.toNat) {i : Nat} (hi : i < n.toNat) : mnR n d i x = x ∨ rp n d i (mnR n d i x) = x := by
  unfold mnR
  split
  · exact .inr (rp_rp hc hi hl)
  · exact .inl rfl
theorem Bel.lift1 (hc : CoOk n d R) (hP : RpOk n d P) {u v : List Int} {i : Nat} (hi : i < n.toNat) (h : Bel n P u v) : u.length = n.toNat → v.getD i 0 < 0 → Bel n P (mnR n d i u) (rp n d i v) := by
  induction h with
  | refl u =>
    intro _ hv
    rw [mnR, if_pos hv]
    exact .refl _
  | @head u u' v a hb ih =>
    intro hl hv
    have ih' := ih a.len hv
    rcases a.move hc hP hl hi with ⟨e, h0⟩ | ha
    · have h1 : u'.getD i 0 < 0 := by rw [e, rp_get hi, hc.two i hi]; omega
      rw [mnR, if_pos h1, e, rp_rp hc hi hl] at ih'
      rw [mnR, if_neg (by omega)]
      exact ih'
    · by_cases h1 : u'.getD i 0 < 0
      · rw [mnR, if_pos h1] at ih'
        exact (mnR_le hc hP hl hi).2.trans (.head ha ih')
      · rw [mnR, if_neg h1] at ih'
        exact (mnR_le hc hP hl hi).1.trans (.head a ih')
theorem Bel.lift2 (hc : CoOk n d R) (hP : RpOk n d P) {m x : List Int} {i : Nat} (hi : i < n.toNat) (h : Bel n P m x) : m.length = n.toNat → 0 < x.getD i 0 → Bel n P m (rp n d i x) ∧ Bel n P (rp n d i m) (rp n d i x) := by
  induction h with
  | refl x =>
    intro _ h0
    exact ⟨.head (Arr.simple hP hi h0) (.refl _), .refl _⟩
  | @head m m' x a hb ih =>
    intro hl h0
    obtain ⟨h1, h2⟩ := ih a.len h0
    refine ⟨.head a h1, ?_⟩
    rcases a.move hc hP hl hi with ⟨e, _⟩ | ha
    · rw [← e]
      exact h1
    · exact .head ha h2
theorem Bel.lift (hc : CoOk n d R) (hP : RpOk n d P) {u v : List Int} {i : Nat} (hi : i < n.toNat) (hu : u.length = n.toNat) (hl : v.length = n.toNat) (hv : v.getD i 0 < 0) : Bel n P u v ↔ Bel n P (mnR n d i u) (rp n d i v) := by
  refine ⟨fun h => h.lift1 hc hP hi hu hv, fun h => ?_⟩
  have hm : (mnR n d i u).length = n.toNat := by
    unfold mnR
    split
    · exact rp_len _ _ _ _
    · exact hu
  have h2 := h.lift2 hc hP hi hm (by rw [rp_get hi, hc.two i hi]; omega)
  rw [rp_rp hc hi hl] at h2
  rcases mnR_rp hc hu hi with e | e
  · rw [e] at h2
    exact h2.1
  · rw [e] at h2
    exact h2.2
theorem prW_low {u β b : List Int} {c : Int} : prW n (lowW n u c β) b = prW n u b - c * prW n β b := by
  have h : prW n (lowW n u c β) b = dotN (b.getD · 0) (fun k => u.getD k 0 - c * β.getD k 0) n.toNat := by
    rw [prW, dotN_comm]
    exact dotN_congr fun k hk => ⟨rfl, lowW_get hk⟩
  rw [h, dotN_sub, prW, prW, dotN_comm (b.getD · 0), dotN_comm (b.getD · 0)]
theorem Bel.dom (hP : RpOk n d P) {u v : List Int} (h : Bel n P u v) : (∀ k, k < n.toNat → 0 ≤ v.getD k 0) → u = v := by
  induction h with
  | refl => exact fun _ => rfl
  | @head u u' v a hb ih =>
    intro hv
    have e := ih hv
    subst e
    obtain ⟨p, hp, h0, e⟩ := a
    have h1 : 0 ≤ prW n u' p.2 := dotN_pos fun k hk => ⟨hv k hk, hP.ge p hp k⟩
    rw [e, prW_low, hP.two p hp] at h1
    omega
end
def lsn (w : List Int) (m : Nat) : Int := (List.range m).foldl (fun (a : Int) (i : Nat) => if w.getD i 0 < 0 then (i : Int) else a) (-1)
theorem lsn_succ (w : List Int) (m : Nat) : lsn w (m + 1) = if w.getD m 0 < 0 then (m : Int) else lsn w m := by
  unfold lsn
  rw [List.range_succ, List.foldl_append]
  rfl
theorem lsn_at (w : List Int) : ∀ m : Nat, (lsn w m = -1 ∧ ∀ j, j < m → 0 ≤ w.getD j 0) ∨ ∃ i : Nat, i < m ∧ lsn w m = (i : Int) ∧ w.getD i 0 < 0
  | 0 => .inl ⟨rfl, fun j hj => absurd hj (Nat.not_lt_zero j)⟩
  | m + 1 => by
    rw [lsn_succ]
    split
    · rename_i h
      exact .inr ⟨m, by omega, rfl, h⟩
    · rename_i h
      rcases lsn_at w m with ⟨h1, h2⟩ | ⟨i, h1, h2, h3⟩
      · refine .inl ⟨h1, fun j hj => ?_⟩
        by_cases e : j = m
        · subst e
          omega
        · exact h2 j (by omega)
      · exact .inr ⟨i, by omega, h2, h3⟩
def blM (n : Int) (d u v : List Int) : List Int := if u.getD (lsn v n.toNat).toNat 0 < 0 then rfF n d (lsn v n.toNat) u else u
def blS (n : Int) (d : List Int) : Nat → List Int → List Int → Bool
  | 0, _, _ => false
  | f + 1, u, v => if lsn v n.toNat < 0 then samB u v else blS n d f (blM n d u v) (rfF n d (lsn v n.toNat) v)
section
variable {n : Int} {d : List Int} {R : List (List Int)} {P : List (List Int × List Int)}
theorem WlOk.mn (h : WlOk n d R) {u : List Int} (hu : Reach n d u) {i : Nat} (hi : i < n.toNat) : Reach n d (mnR n d i u) ∧ (if u.getD i 0 < 0 then rfF n d (i : Int) u else u) = mnR n d i u := by
  unfold mnR
  split
  · exact ⟨hu.step hi, h.rf hu hi⟩
  · exact ⟨hu, rfl⟩
theorem WlOk.bl (h : WlOk n d R) (hP : RpOk n d P) : ∀ (f : Nat) {u v : List Int}, Reach n d u → Reach n d v → lnW n R v < f → (blS n d f u v = true ↔ Bel n P u v)
  | 0, _, _, _, _, hf => absurd hf (Nat.not_lt_zero _)
  | f + 1, u, v, hu, hv, hf => by
    rw [blS]
    have lu := (hu.inv h.co).1
    have lv := (hv.inv h.co).1
    rcases lsn_at v n.toNat with ⟨h1, h2⟩ | ⟨i, hi, h1, h3⟩
    · rw [if_pos (by omega)]
      constructor
      · intro e
        rw [samB_true e]
        exact .refl _
      · intro hb
        exact samB_of (hb.dom hP h2)
    · rw [if_neg (by omega), blM, h1, Int.toNat_natCast, (h.mn hu hi).2, h.rf hv hi]
      have hl := (h.co.ln hi v (by omega)).2 h3
      rw [h.bl hP f (h.mn hu hi).1 (hv.step hi) (by omega)]
      exact (Bel.lift h.co hP hi lu lv h3).symm
def subM (n : Int) (d : List Int) : List Int → List Int → Prop
  | [], x => x = ones n 1
  | i :: t, x => subM n d t x ∨ ∃ w, subM n d t w ∧ x = rfF n d i w
theorem WlOk.sub (h : WlOk n d R) (hP : RpOk n d P) : ∀ (f : Nat) {v x word : List Int}, Reach n d v → climb n d f v = some (x, word) → ∀ z, subM n d word z ↔ Reach n d z ∧ Bel n P z v
  | 0, v, x, word, _, hc => by cases hc
  | f + 1, v, x, word, hv, hc => by
    intro z
    have lv := (hv.inv h.co).1
    by_cases hf : fpos v < 0
    · obtain ⟨_, e2⟩ := climb_end hc hf
      subst e2
      have hnn : ∀ k, k < n.toNat → 0 ≤ v.getD k 0 := fun k hk => by
        unfold fpos posF at hf
        split at hf
        · omega
        · rename_i hn
          have := List.findIdx?_eq_none_iff.1 hn (v.getD k 0) (by rw [List.getD, List.getElem?_eq_getElem (by omega)]; exact List.getElem_mem _)
          have := of_decide_eq_false this
          omega
      have ev := hv.dom h.co hnn
      rw [subM]
      constructor
      · intro e
        rw [e, ← ev]
        exact ⟨hv, .refl _⟩
      · rintro ⟨_, hb⟩
        rw [← ev]
        exact hb.dom hP hnn
    · obtain ⟨g, z', e1, h2, e3⟩ := climb_step hc hf
      obtain rfl : f = g := by omega
      subst e3
      obtain ⟨a1, a2, a3⟩ := fpos_at hf
      have hi : (fpos v).toNat < n.toNat := by omega
      have ei : fpos v = ((fpos v).toNat : Int) := by omega
      generalize (fpos v).toNat = i at *
      rw [ei, h.rf hv hi] at h2
      have ih := h.sub hP f (hv.step hi) h2
      rw [subM, ih, ei]
      constructor
      · rintro (⟨hz, hb⟩ | ⟨w, hw, e⟩)
        · have lz := (hz.inv h.co).1
          exact ⟨hz, (Bel.lift h.co hP hi lz lv a3).2 ((mnR_le h.co hP lz hi).1.trans hb)⟩
        · obtain ⟨hw1, hw2⟩ := (ih w).1 hw
          have lw := (hw1.inv h.co).1
          rw [h.rf hw1 hi] at e
          subst e
          have := (mnR_le h.co hP (rp_len n d i w) hi).2
          rw [rp_rp h.co hi lw] at this
          exact ⟨hw1.step hi, (Bel.lift h.co hP hi (rp_len n d i w) lv a3).2 (this.trans hw2)⟩
      · rintro ⟨hz, hb⟩
        have lz := (hz.inv h.co).1
        have hb2 := (Bel.lift h.co hP hi lz lv a3).1 hb
        have hm := (h.mn hz hi).1
        rcases mnR_rp h.co lz hi with e | e
        · rw [e] at hb2
          exact .inl ⟨hz, hb2⟩
        · exact .inr ⟨mnR n d i z, (ih _).2 ⟨hm, hb2⟩, by rw [h.rf hm hi, e]⟩
end
end Go.Proofs.YtmckgdekblphoaaGreatDoor

namespace Go.Proofs.YtmckgdekblphoaaGreatDoor
set_option linter.unusedVariables false
set_option linter.unusedSimpArgs false
abbrev PrL := List (List Int × List Int)
def prOne (n : Int) (d : List Int) (p : List Int × List Int) (L : PrL) (i : Nat) : PrL := bif (coS n d p.2 i).all (fun x => decide (0 ≤ x)) && !L.any (fun q => q.2 == coS n d p.2 i) then L ++ [(rp n d i p.1, coS n d p.2 i)] else L
def prC (n : Int) (d : List Int) : Nat → PrL → Nat → PrL
  | 0, L, _ => L
  | f + 1, L, k => if k < L.length then prC n d f ((List.range n.toNat).foldl (prOne n d (L.getD k ([], []))) L) (k + 1) else L
def prR (n : Int) (d : List Int) : PrL := prC n d 30 ((List.range n.toNat).map fun i => (colW n d i, unitL n.toNat i)) 0
def chkPw (n : Int) (d : List Int) (P : PrL) : Bool :=
  (P.all fun p => (p.2.length == n.toNat) && (p.2.all fun x => decide (0 ≤ x)) && (prW n p.1 p.2 == 2) && (List.range n.toNat).all fun i => (p == (colW n d i, unitL n.toNat i)) || P.contains (rp n d i p.1, coS n d p.2 i)) &&
  ((List.range n.toNat).all fun i => P.contains (colW n d i, unitL n.toNat i)) && ((coR n d).length == (rSt n d).length)
def chkPws (n a b : Nat) : Bool := (((candL n).drop a).take b).all fun d => chkPw n d (prR n d)
set_option maxRecDepth 100000 in
theorem chkPws_1 : chkPws 1 0 1000 = true := by decide +kernel
set_option maxRecDepth 100000 in
theorem chkPws_2 : chkPws 2 0 1000 = true := by decide +kernel
set_option maxRecDepth 100000 in
theorem chkPws_3 : chkPws 3 0 1000 = true := by decide +kernel
set_option maxRecDepth 100000 in
theorem chkPws_4a : chkPws 4 0 32 = true := by decide +kernel
set_option maxRecDepth 100000 in
theorem chkPws_4b : chkPws 4 32 32 = true := by decide +kernel
set_option maxRecDepth 100000 in
theorem chkPws_4c : chkPws 4 64 32 = true := by decide +kernel
set_option maxRecDepth 100000 in
theorem chkPws_4d : chkPws 4 96 32 = true := by decide +kernel
set_option maxRecDepth 100000 in
theorem chkPws_4e : chkPws 4 128 32 = true := by decide +kernel
set_option maxRecDepth 100000 in
theorem chkPws_4f : chkPws 4 160 32 = true := by decide +kernel
set_option maxRecDepth 100000 in
theorem chkPws_4g : chkPws 4 192 32 = true := by decide +kernel
set_option maxRecDepth 100000 in
theorem chkPws_4h : chkPws 4 224 1000 = true := by decide +kernel
theorem chkPws_all {m : Nat} {d : List Int} (h1 : 1 ≤ m) (h4 : m ≤ 4) (hd : d ∈ candL m) : chkPw m d (prR m d) = true := by
  have one : ∀ n, chkPws n 0 1000 = true → (candL n).length ≤ 1000 → d ∈ candL n → chkPw n d (prR n d) = true := fun n h hl hd => by
    simp only [chkPws, List.all_eq_true] at h
    exact h d (by rw [List.drop_zero, List.take_of_length_le hl]; exact hd)
  have len : ∀ n, 1 ≤ n → n ≤ 4 → (candL n).length ≤ 1000 := fun n a b => four (P := fun n => (candL n).length ≤ 1000) (by decide +kernel) (by decide +kernel) (by decide +kernel) (by decide +kernel) a b
  rcases (by omega : m = 1 ∨ m = 2 ∨ m = 3 ∨ m = 4) with rfl | rfl | rfl | rfl
  · exact one 1 chkPws_1 (len 1 (by omega) (by omega)) hd
  · exact one 2 chkPws_2 (len 2 (by omega) (by omega)) hd
  · exact one 3 chkPws_3 (len 3 (by omega) (by omega)) hd
  · have step : ∀ a b, chkPws 4 a b = true → d ∈ (candL 4).drop a → chkPw 4 d (prR 4 d) = true ∨ d ∈ (candL 4).drop (a + b) := fun a b h hm => by
      simp only [chkPws, List.all_eq_true] at h
      rcases mem_parts b hm with h2 | h2
      · exact .inl (h d h2)
      · rw [List.drop_drop] at h2
        exact .inr h2
    have h0 : d ∈ (candL 4).drop 0 := by rwa [List.drop_zero]
    rcases step 0 32 chkPws_4a h0 with h | h1
    · exact h
    rcases step 32 32 chkPws_4b h1 with h | h2
    · exact h
    rcases step 64 32 chkPws_4c h2 with h | h3
    · exact h
    rcases step 96 32 chkPws_4d h3 with h | h4
    · exact h
    rcases step 128 32 chkPws_4e h4 with h | h5
    · exact h
    rcases step 160 32 chkPws_4f h5 with h | h6
    · exact h
    rcases step 192 32 chkPws_4g h6 with h | h7
    · exact h
    rcases step 224 1000 chkPws_4h h7 with h | h8
    · exact h
    rw [List.drop_of_length_le (by have hl := len 4 (by omega) (by omega); omega)] at h8
    simp at h8
theorem rpOk {n : Int} {d : List Int} (h : (tyS n d).isSome = true) : RpOk n d (prR n d) ∧ (coR n d).length = (rSt n d).length := by
  obtain ⟨ks, hk⟩ := Option.isSome_iff_exists.1 h
  obtain ⟨m, rfl, h1, h4, hd⟩ := tyS_cand hk
  have hw := chkPws_all h1 h4 hd
  simp only [chkPw, Bool.and_eq_true, beq_iff_eq] at hw
  obtain ⟨⟨hA, hB⟩, hC⟩ := hw
  rw [List.all_eq_true] at hA hB
  refine ⟨⟨fun p hp => ?_, fun p hp => ?_, fun p hp => ?_, fun i hi => ?_, fun p hp i hi => ?_⟩, hC⟩
  · have := hA p hp
    simp only [Bool.and_eq_true, beq_iff_eq] at this
    exact this.1.1.1
  · have := hA p hp
    simp only [Bool.and_eq_true, beq_iff_eq] at this
    exact getD_of_all this.1.1.2
  · have := hA p hp
    simp only [Bool.and_eq_true, beq_iff_eq] at this
    exact this.1.2
  · exact List.contains_iff_mem.1 (hB i (List.mem_range.2 hi))
  · have := hA p hp
    simp only [Bool.and_eq_true] at this
    have h2 := List.all_eq_true.1 this.2 i (List.mem_range.2 hi)
    rw [Bool.or_eq_true] at h2
    rcases h2 with h2 | h2
    · exact .inl (eq_of_beq h2)
    · exact .inr (List.contains_iff_mem.1 h2)
end Go.Proofs.YtmckgdekblphoaaGreatDoor

namespace Go.Proofs.YtmckgdekblphoaaGreatDoor
set_option linter.unusedVariables false
set_option linter.unusedSimpArgs false
section
variable {n : Int} {d : List Int} {R : List (List Int)}
theorem fpos_none {w : List Int} {m : Nat} (hl : w.length = m) (hf : fpos w < 0) : ∀ k, k < m → 0 ≤ w.getD k 0 := fun k hk => by
  unfold fpos posF at hf
  split at hf
  · omega
  · rename_i hn
    have := List.findIdx?_eq_none_iff.1 hn (w.getD k 0) (by rw [List.getD, List.getElem?_eq_getElem (by omega)]; exact List.getElem_mem _)
    have := of_decide_eq_false this
    omega
theorem WlOk.climb (h : WlOk n d R) : ∀ (f : Nat) {w x y : List Int}, Reach n d w → Proofs.YtmckgdekblphoaaGreatDoor.climb n d f w = some (x, y) → y.length = lnW n R w ∧ actF n d y (ones n 1) = w ∧ ∀ z ∈ y, 0 ≤ z ∧ z < n
  | 0, _, _, _, _, hc => by cases hc
  | f + 1, w, x, y, hw, hc => by
    have lw := (hw.inv h.co).1
    by_cases hf : fpos w < 0
    · obtain ⟨_, e2⟩ := climb_end hc hf
      subst e2
      have e := hw.dom h.co (fpos_none lw hf)
      subst e
      refine ⟨(((h.lev 0).2 _).1 (List.mem_singleton.2 rfl)).2.symm, rfl, fun z hz => by simp at hz⟩
    · obtain ⟨g, z, e1, h2, e3⟩ := climb_step hc hf
      obtain rfl : f = g := by omega
      subst e3
      obtain ⟨a1, a2, a3⟩ := fpos_at hf
      have hi : (fpos w).toNat < n.toNat := by omega
      have ei : fpos w = ((fpos w).toNat : Int) := by omega
      generalize (fpos w).toNat = i at *
      rw [ei, h.rf hw hi] at h2
      obtain ⟨b1, b2, b3⟩ := h.climb f (hw.step hi) h2
      refine ⟨?_, ?_, fun q hq => ?_⟩
      · rw [List.length_cons, b1, (h.co.ln hi w (by omega)).2 a3]
      · show rfF n d (fpos w) (actF n d z (ones n 1)) = w
        rw [b2, ei, h.rf (hw.step hi) hi, rp_rp h.co hi lw]
      · rcases List.mem_cons.1 hq with rfl | hq
        · omega
        · exact b3 q hq
theorem Reach.bd (h : WlOk n d R) (hp : PhOk n d) {w : List Int} (hw : Reach n d w) : Bd n d w := by
  induction hw with
  | one => exact Bd.up hp
  | step hr hi ih =>
    rw [← h.rf hr hi]
    exact ih.refl hp ⟨by omega, by rw [Int.toNat_natCast, (hr.inv h.co).1]; exact hi⟩
theorem WlOk.nw (h : WlOk n d R) (hp : PhOk n d) {w : List Int} (hw : Reach n d w) : (nwF n d w).length = lnW n R w ∧ actF n d (nwF n d w) (ones n 1) = w ∧ ∀ z ∈ nwF n d w, 0 ≤ z ∧ z < n := by
  obtain ⟨x, hx⟩ := climb_ok hp (hw.bd h hp)
  exact h.climb _ hw hx
theorem WlOk.lnR (h : WlOk n d R) (w : List Int) : lnW n R w ≤ R.length := List.countP_le_length
theorem WlOk.lvNe (h : WlOk n d R) : ∀ j : Nat, j ≤ R.length → lvAt n d j ≠ []
  | 0, _ => by simp [lvAt]
  | j + 1, hj => by
    obtain ⟨w, hw⟩ := List.exists_mem_of_ne_nil _ (h.lvNe j (by omega))
    obtain ⟨hr, hln⟩ := ((h.lev j).2 w).1 hw
    have : ∃ i, i < n.toNat ∧ 0 < w.getD i 0 := by
      by_cases hn : ∀ i, i < n.toNat → ¬ 0 < w.getD i 0
      · exfalso
        have hall : ∀ b ∈ R, decide (prW n w b < 0) = true := fun b hb => by
          obtain ⟨k, hk, h1⟩ := h.co.nz b hb
          have h2 := dotN_gt (c := fun q => -(w.getD q 0)) (w := (b.getD · 0)) (j := k) (m := n.toNat) (fun q hq => ⟨by have := hn q hq; omega, h.co.ge b hb q⟩) hk (by have := hn k hk; have := hr.nz h.co hk; omega) h1
          have h3 : dotN (fun q => -(w.getD q 0)) (b.getD · 0) n.toNat = -(prW n w b) := by
            rw [dotN_comm, dotN_neg, prW, dotN_comm]
          exact decide_eq_true (by omega)
        have := List.countP_eq_length.2 hall
        unfold lnW at hln
        omega
      · obtain ⟨i, hi⟩ := Classical.not_forall.1 hn
        have hi3 := Classical.not_imp.1 hi
        exact ⟨i, hi3.1, by omega⟩
    obtain ⟨i, hi, hp⟩ := this
    intro e
    have := ((h.lev (j + 1)).2 (rp n d i w)).2 ⟨hr.step hi, by rw [(h.co.ln hi w (by omega)).1 hp, hln]⟩
    rw [e] at this
    simp at this
theorem WlOk.lvEnd (h : WlOk n d R) {m : Nat} (h1 : lvAt n d m = []) (h2 : ∀ q, q < m → lvAt n d q ≠ []) : m = R.length + 1 := by
  have a : R.length < m := by
    apply Classical.byContradiction
    intro hh
    exact h.lvNe m (by omega) h1
  have b : m - 1 ≤ R.length := by
    obtain ⟨w, hw⟩ := List.exists_mem_of_ne_nil _ (h2 (m - 1) (by omega))
    have := ((h.lev (m - 1)).2 w).1 hw
    have := h.lnR w
    omega
  omega
end
def cntW (n : Int) (d : List Int) (L : List (List Int)) (q : Nat) : Nat := (L.filter fun w => decide ((nwF n d w).length = q)).length
def lcUp (n : Int) (d : List Int) (M : Nat) (L : List (List Int)) : List Int := (List.range M).map fun q => (cntW n d L q : Int)
def lcF (n : Int) (d : List Int) : List Int := (List.range ((rSt n d).length + 1)).map fun k => ((lvAt n d k).length : Int)
def lcOf (n : Int) (d : List Int) : List Int := if (tyS n d).isSome then lcF n d else []
theorem lcUp_len (n : Int) (d : List Int) (M : Nat) (L : List (List Int)) : (lcUp n d M L).length = M := by simp [lcUp]
theorem lcUp_get {n : Int} {d : List Int} {M q : Nat} {L : List (List Int)} (hq : q < M) : (lcUp n d M L).getD q 0 = (cntW n d L q : Int) := by simp [lcUp, List.getD, hq]
theorem cntW_le (n : Int) (d : List Int) (L : List (List Int)) (q : Nat) : cntW n d L q ≤ L.length := List.length_filter_le _ _
theorem lcUp_nil (n : Int) (d : List Int) (M : Nat) : lcUp n d M [] = List.replicate M 0 := by
  refine ext_getD (by simp [lcUp]) fun k hk => ?_
  rw [lcUp_len] at hk
  rw [lcUp_get hk]
  simp [cntW, List.getD, hk]
theorem lcUp_next {n : Int} {d : List Int} {M : Nat} {L : List (List Int)} {w : List Int} (hq : (nwF n d w).length < M) : (lcUp n d M L).set (nwF n d w).length ((lcUp n d M L).getD (nwF n d w).length 0 + 1) = lcUp n d M (L ++ [w]) := by
  refine ext_getD (by simp [lcUp]) fun k hk => ?_
  rw [List.length_set, lcUp_len] at hk
  rw [lcUp_get (L := L ++ [w]) hk, lcUp_get hq]
  by_cases e : k = (nwF n d w).length
  · subst e
    rw [set_getD_eq (by rw [lcUp_len]; exact hk)]
    simp [cntW, List.filter_append]
  · rw [set_getD_ne (fun h => e h.symm), lcUp_get hk]
    simp [cntW, List.filter_append, show ¬ (nwF n d w).length = k from fun h => e h.symm]
theorem take_getL {L : List (List Int)} {k : Nat} (hk : k < L.length) : L.take (k + 1) = L.take k ++ [L.getD k []] := by
  rw [List.take_add_one, List.getElem?_eq_getElem hk, List.getD, List.getElem?_eq_getElem hk]
  rfl
theorem nw_of {n : Int} {d : List Int} (hS : (tyS n d).isSome = true) {w : List Int} (hw : w ∈ oAll n d (ones n 1)) : (nwF n d w).length = lnW n (coR n d) w ∧ (nwF n d w).length < (rSt n d).length + 1 ∧ actF n d (nwF n d w) (ones n 1) = w := by
  have h := wlOk hS
  have h1 := h.nw (phOk hS) (h.orR w hw)
  have h2 := h.lnR w
  have h3 := (rpOk hS).2
  exact ⟨h1.1, by omega, h1.2.1⟩
theorem lc_all {n : Int} {d : List Int} (hS : (tyS n d).isSome = true) : lcUp n d ((rSt n d).length + 1) (oAll n d (ones n 1)) = lcF n d := by
  have h := wlOk hS
  refine ext_getD (by simp [lcUp, lcF]) fun k hk => ?_
  rw [lcUp_len] at hk
  rw [lcUp_get hk, lcF]
  have e : ((List.range ((rSt n d).length + 1)).map fun k => ((lvAt n d k).length : Int)).getD k 0 = ((lvAt n d k).length : Int) := by simp [List.getD, hk]
  rw [e, ← h.part k]
  unfold cntW
  congr 2
  refine List.filter_congr fun w hw => ?_
  rw [(nw_of hS hw).1]
theorem lc_levels {n : Int} {d : List Int} (hS : (tyS n d).isSome = true) {m : Nat} (h1 : lvAt n d m = []) (h2 : ∀ q, q < m → lvAt n d q ≠ []) : (List.range m).map (fun k => ((lvAt n d k).length : Int)) = lcF n d := by
  rw [lcF, ← (rpOk hS).2, ← (wlOk hS).lvEnd h1 h2]
def elM (n : Int) (d : List Int) (L : Nat) : List (List Int) := ((oAll n d (ones n 1)).filter fun w => decide ((nwF n d w).length = L)).map (nwF n d)
def elF (n : Int) (d : List Int) (L : Nat) : List (List Int) := (srtD (elM n d L)).reverse
def elOf (n : Int) (d : List Int) (L : Int) : List (List Int) := if (tyS n d).isSome && decide (0 ≤ L) then elF n d L.toNat else []
theorem nod_map {α β : Type} [DecidableEq β] {f : α → β} : ∀ {L : List α}, L.Nodup → (∀ x ∈ L, ∀ y ∈ L, f x = f y → x = y) → (L.map f).Nodup
  | [], _, _ => by simp
  | x :: t, hn, hi => by
    obtain ⟨h1, h2⟩ := List.nodup_cons.1 hn
    rw [List.map_cons, List.nodup_cons]
    refine ⟨fun hm => ?_, nod_map h2 fun a ha b hb => hi a (List.mem_cons_of_mem _ ha) b (List.mem_cons_of_mem _ hb)⟩
    obtain ⟨y, hy, e⟩ := List.mem_map.1 hm
    have := hi y (List.mem_cons_of_mem _ hy) x List.mem_cons_self e
    exact h1 (by rw [← this]; exact hy)
theorem elM_nod {n : Int} {d : List Int} (hS : (tyS n d).isSome = true) (L : Nat) : (elM n d L).Nodup :=
  nod_map ((oAll_nod _ _ _).sublist List.filter_sublist) fun x hx y hy e => by
    have h1 := (nw_of hS (List.mem_filter.1 hx).1).2.2
    have h2 := (nw_of hS (List.mem_filter.1 hy).1).2.2
    rw [← h1, ← h2, e]
theorem el_unique {n : Int} {d : List Int} (hS : (tyS n d).isSome = true) {L : Nat} {xs : List (List Int)} (hp : xs.Perm (elM n d L)) (hs : xs.Pairwise fun a b => ¬ cmpL b a < 0) : xs = elF n d L := by
  have h : xs.reverse = srtD (elM n d L) := srt_unique (elM_nod hS L) ((List.reverse_perm xs).trans hp) (by rw [List.pairwise_reverse]; exact hs)
  rw [elF, ← h, List.reverse_reverse]
def elIns (n : Int) (d : List Int) (L : List (List Int)) : List (List Int) := srtD (L.map (nwF n d))
theorem lv_words {n : Int} {d : List Int} (hS : (tyS n d).isSome = true) (L : Nat) : ((lvAt n d L).map (nwF n d)).Perm (elM n d L) := by
  have h := wlOk hS
  refine List.Perm.map _ ?_
  refine (List.perm_ext_iff_of_nodup (h.lev L).1.nod ((oAll_nod _ _ _).sublist List.filter_sublist)).2 fun w => ?_
  rw [(h.lev L).2 w, List.mem_filter, decide_eq_true_eq]
  constructor
  · rintro ⟨a, b⟩
    have hm := h.orAll a
    exact ⟨hm, by rw [(nw_of hS hm).1, b]⟩
  · rintro ⟨a, b⟩
    exact ⟨h.orR w a, by rw [← (nw_of hS a).1, b]⟩
theorem el_levels {n : Int} {d : List Int} (hS : (tyS n d).isSome = true) (L : Nat) : (elIns n d (lvAt n d L)).reverse = elF n d L := by
  have hp := lv_words hS L
  have hn := (hp.nodup_iff).2 (elM_nod hS L)
  have hd := srt_desc hn
  refine el_unique hS ((List.reverse_perm _).trans ((srt_perm _).trans hp)) ?_
  rw [List.pairwise_reverse]
  refine hd.imp fun {a b} h => ?_
  rw [abv_iff] at h
  have := cmpL_neg a b
  omega
theorem el_new {n : Int} {d : List Int} (hS : (tyS n d).isSome = true) {L k : Nat} (hk : k < (lvAt n d L).length) : (elIns n d ((lvAt n d L).take k)).contains (nwF n d ((lvAt n d L).getD k [])) = false ∧ elIns n d ((lvAt n d L).take (k + 1)) = insD (elIns n d ((lvAt n d L).take k)) (nwF n d ((lvAt n d L).getD k [])) := by
  have hp := lv_words hS L
  have hn := (hp.nodup_iff).2 (elM_nod hS L)
  refine ⟨?_, by rw [take_getL hk, elIns, List.map_append, List.map_cons, List.map_nil, srtD_snoc]; rfl⟩
  rw [Bool.eq_false_iff]
  intro hc
  have hm := (srt_perm _).mem_iff.1 (List.contains_iff_mem.1 hc)
  have e : (lvAt n d L).map (nwF n d) = ((lvAt n d L).take k).map (nwF n d) ++ ((lvAt n d L).drop k).map (nwF n d) := by rw [← List.map_append, List.take_append_drop]
  rw [e] at hn
  refine (List.nodup_append.1 hn).2.2 _ hm _ (List.mem_map_of_mem (?_ : (lvAt n d L).getD k [] ∈ (lvAt n d L).drop k)) rfl
  rw [List.getD, List.getElem?_eq_getElem hk, List.mem_iff_getElem]
  exact ⟨0, by simp; omega, by simp⟩
theorem lcOf_len (n : Int) (d : List Int) : (lcOf n d).length ≤ 31 := by
  unfold lcOf
  split
  · rename_i h
    have h1 := (rtOk h).slen
    have h2 := (rtOk h).few
    rw [lcF, List.length_map, List.length_range]
    omega
  · simp
theorem elOf_yes {n : Int} {d : List Int} {L : Int} (hS : (tyS n d).isSome = true) (h : 0 ≤ L) : elOf n d L = elF n d L.toNat := by
  rw [elOf, hS, decide_eq_true h]
  rfl
theorem elOf_no {n : Int} {d : List Int} {L : Int} (h : (tyS n d).isSome = false) : elOf n d L = [] := by
  rw [elOf, h]
  rfl
theorem elOf_neg {n : Int} {d : List Int} {L : Int} (h : ¬ 0 ≤ L) : elOf n d L = [] := by
  rw [elOf, decide_eq_false h, Bool.and_false]
  rfl
theorem elOf_end {n : Int} {d : List Int} {L : Int} {m : Nat} (hS : (tyS n d).isSome = true) (hm : lvAt n d m = []) (h : (m : Int) ≤ L) : elOf n d L = [] := by
  rw [elOf_yes hS (by omega), ← el_levels hS, show L.toNat = m + (L.toNat - m) by omega, lvAt_nil hm]
  rfl
def elUp (n : Int) (d : List Int) (L : Nat) (xs : List (List Int)) : List (List Int) := (xs.filter fun w => decide ((nwF n d w).length = L)).map (nwF n d)
theorem elUp_len (n : Int) (d : List Int) (L : Nat) (xs : List (List Int)) : (elUp n d L xs).length ≤ xs.length := by
  rw [elUp, List.length_map]
  exact List.length_filter_le _ _
theorem elUp_yes {n : Int} {d w : List Int} {L : Nat} {xs : List (List Int)} (h : (nwF n d w).length = L) : elUp n d L (xs ++ [w]) = elUp n d L xs ++ [nwF n d w] := by
  rw [elUp, elUp, List.filter_append, List.map_append]
  simp [h]
theorem elUp_no {n : Int} {d w : List Int} {L : Nat} {xs : List (List Int)} (h : (nwF n d w).length ≠ L) : elUp n d L (xs ++ [w]) = elUp n d L xs := by
  rw [elUp, elUp, List.filter_append, List.map_append]
  simp [h]
theorem elM_ent {n : Int} {d : List Int} {L : Nat} {y : List Int} (hS : (tyS n d).isSome = true) (hy : y ∈ elM n d L) : y.length ≤ 24 := by
  obtain ⟨w, hw, rfl⟩ := List.mem_map.1 hy
  have h1 := (nw_of hS (List.mem_filter.1 hw).1).1
  have h2 := lnW_le (wlOk hS).co w
  omega
theorem elIns_ent {n : Int} {d : List Int} {L : List (List Int)} {y : List Int} (hy : y ∈ elIns n d L) : y.length ≤ 16001 := by
  obtain ⟨w, hw, rfl⟩ := List.mem_map.1 ((srt_perm _).mem_iff.1 hy)
  exact nwF_len _ _ _
theorem elIns_desc {n : Int} {d : List Int} (hS : (tyS n d).isSome = true) (L k : Nat) : Desc (elIns n d ((lvAt n d L).take k)) := by
  have hn := ((lv_words hS L).nodup_iff).2 (elM_nod hS L)
  refine srt_desc (hn.sublist ?_)
  exact List.Sublist.map _ (List.take_sublist _ _)
theorem elOf_len (n : Int) (d : List Int) (L : Int) : (elOf n d L).length ≤ 1204 := by
  unfold elOf
  split
  · rename_i h
    rw [Bool.and_eq_true] at h
    rw [elF, List.length_reverse, srt_len, elM, List.length_map]
    have h1 := (wlOk h.1).orLen
    exact Nat.le_trans (List.length_filter_le _ _) (by omega)
  · simp
theorem elOf_ent {n : Int} {d : List Int} {L : Int} {y : List Int} (hy : y ∈ elOf n d L) : y.length ≤ 24 := by
  unfold elOf at hy
  split at hy
  · rename_i h
    rw [Bool.and_eq_true] at h
    rw [elF, List.mem_reverse] at hy
    exact elM_ent h.1 ((srt_perm _).mem_iff.1 hy)
  · simp at hy
theorem rev_step {α : Type} {uu : List α} {q : Nat} {e : α} (h : 1 ≤ q ∧ q ≤ uu.length) : (uu.drop q).reverse ++ [uu.getD (q - 1) e] = (uu.drop (q - 1)).reverse := by
  have e2 : uu.drop (q - 1) = uu.getD (q - 1) e :: uu.drop q := by
    rw [List.drop_eq_getElem_cons (by omega), List.getD, List.getElem?_eq_getElem (by omega), show q - 1 + 1 = q by omega]
    rfl
  rw [e2, List.reverse_cons]
theorem zip_rev {α β : Type} {uu : List α} {qs : List β} (hl : uu.length = qs.length) : (uu.zip qs).Perm (uu.reverse.zip qs.reverse) := by
  have e : uu.reverse.zip qs.reverse = (uu.zip qs).reverse := by
    simp only [List.zip]
    exact (List.reverse_zipWith hl).symm
  rw [e]
  exact (List.reverse_perm _).symm
end Go.Proofs.YtmckgdekblphoaaGreatDoor
