/-
  Weyl groups of the matrices of rank at most 4: positive coroots and the tree, checked by the kernel. No program is spoken of.
-/
import Derived.Test.YtgelkakjmbiibaaGreatDoorTre
import Derived.Test.YtgelkakjmbiibaaGreatDoorLvl
namespace Go.Proofs.YtgelkakjmbiibaaGreatDoor
set_option linter.unusedVariables false
set_option linter.unusedSimpArgs false
def coOne (n : Int) (d b : List Int) (L : List (List Int)) (i : Nat) : List (List Int) := bif (coS n d b i).all (fun x => decide (0 ≤ x)) && !L.contains (coS n d b i) then L ++ [coS n d b i] else L
def coC (n : Int) (d : List Int) : Nat → List (List Int) → Nat → List (List Int)
  | 0, L, _ => L
  | f + 1, L, k => if k < L.length then coC n d f ((List.range n.toNat).foldl (coOne n d (L.getD k [])) L) (k + 1) else L
def coR (n : Int) (d : List Int) : List (List Int) := coC n d 30 ((List.range n.toNat).map (unitL n.toNat)) 0
def chkCo (n : Int) (d : List Int) (R : List (List Int)) : Bool :=
  (R.all fun b => (b.length == n.toNat) && (b.all fun x => decide (0 ≤ x)) && (b.any fun x => decide (1 ≤ x))) && decide (R.length ≤ 24) &&
  ((List.range n.toNat).all fun i => R.contains (unitL n.toNat i) && ((R.erase (unitL n.toNat i)).map fun b => coS n d b i).isPerm (R.erase (unitL n.toNat i)) && (atI n d i i == 2) && (List.range n.toNat).all fun k => k == i || (decide (-3 ≤ atI n d k i) && decide (atI n d k i ≤ 0)))
def chkW (n : Int) (d : List Int) : Bool := chkCo n d (coR n d)
def chkY (n : Int) (d : List Int) : Bool := (frcCs n d n.toNat fun cs => frc (enW (ones n 1)) fun E => cntE cs 25 E).ble 1200
def chkWs (n a b : Nat) : Bool := (((candL n).drop a).take b).all fun d => chkW n d && chkY n d
set_option maxRecDepth 100000 in
theorem chkWs_1 : chkWs 1 0 1000 = true := by decide +kernel
set_option maxRecDepth 100000 in
theorem chkWs_2 : chkWs 2 0 1000 = true := by decide +kernel
set_option maxRecDepth 100000 in
theorem chkWs_3 : chkWs 3 0 1000 = true := by decide +kernel
set_option maxRecDepth 100000 in
theorem chkWs_4a : chkWs 4 0 32 = true := by decide +kernel
set_option maxRecDepth 100000 in
theorem chkWs_4b : chkWs 4 32 32 = true := by decide +kernel
set_option maxRecDepth 100000 in
theorem chkWs_4c : chkWs 4 64 32 = true := by decide +kernel
set_option maxRecDepth 100000 in
theorem chkWs_4d : chkWs 4 96 32 = true := by decide +kernel
set_option maxRecDepth 100000 in
theorem chkWs_4e : chkWs 4 128 32 = true := by decide +kernel
set_option maxRecDepth 100000 in
theorem chkWs_4f : chkWs 4 160 32 = true := by decide +kernel
set_option maxRecDepth 100000 in
theorem chkWs_4g : chkWs 4 192 32 = true := by decide +kernel
set_option maxRecDepth 100000 in
theorem chkWs_4h : chkWs 4 224 1000 = true := by decide +kernel
theorem chkWs_all {m : Nat} {d : List Int} (h1 : 1 ≤ m) (h4 : m ≤ 4) (hd : d ∈ candL m) : chkW m d = true ∧ chkY m d = true := by
  have one : ∀ n, chkWs n 0 1000 = true → (candL n).length ≤ 1000 → d ∈ candL n → chkW n d = true ∧ chkY n d = true := fun n h hl hd => by
    simp only [chkWs, List.all_eq_true, Bool.and_eq_true] at h
    exact h d (by rw [List.drop_zero, List.take_of_length_le hl]; exact hd)
  have len : ∀ n, 1 ≤ n → n ≤ 4 → (candL n).length ≤ 1000 := fun n a b => four (P := fun n => (candL n).length ≤ 1000) (by decide +kernel) (by decide +kernel) (by decide +kernel) (by decide +kernel) a b
  rcases (by omega : m = 1 ∨ m = 2 ∨ m = 3 ∨ m = 4) with rfl | rfl | rfl | rfl
  · exact one 1 chkWs_1 (len 1 (by omega) (by omega)) hd
  · exact one 2 chkWs_2 (len 2 (by omega) (by omega)) hd
  · exact one 3 chkWs_3 (len 3 (by omega) (by omega)) hd
  · have step : ∀ a b, chkWs 4 a b = true → d ∈ (candL 4).drop a → (chkW 4 d = true ∧ chkY 4 d = true) ∨ d ∈ (candL 4).drop (a + b) := fun a b h hm => by
      simp only [chkWs, List.all_eq_true, Bool.and_eq_true] at h
      rcases mem_parts b hm with h2 | h2
      · exact .inl (h d h2)
      · rw [List.drop_drop] at h2
        exact .inr h2
    have h0 : d ∈ (candL 4).drop 0 := by rwa [List.drop_zero]
    rcases step 0 32 chkWs_4a h0 with h | h1
    · exact h
    rcases step 32 32 chkWs_4b h1 with h | h2
    · exact h
    rcases step 64 32 chkWs_4c h2 with h | h3
    · exact h
    rcases step 96 32 chkWs_4d h3 with h | h4
    · exact h
    rcases step 128 32 chkWs_4e h4 with h | h5
    · exact h
    rcases step 160 32 chkWs_4f h5 with h | h6
    · exact h
    rcases step 192 32 chkWs_4g h6 with h | h7
    · exact h
    rcases step 224 1000 chkWs_4h h7 with h | h8
    · exact h
    rw [List.drop_of_length_le (by have hl := len 4 (by omega) (by omega); omega)] at h8
    simp at h8
theorem getD_of_all {b : List Int} (h : b.all (fun x => decide (0 ≤ x)) = true) (k : Nat) : 0 ≤ b.getD k 0 := by
  by_cases hk : k < b.length
  · rw [List.getD, List.getElem?_eq_getElem hk]
    exact of_decide_eq_true (List.all_eq_true.1 h _ (List.getElem_mem hk))
  · rw [List.getD, List.getElem?_eq_none (by omega)]
    exact Int.le_refl 0
theorem wlOk {n : Int} {d : List Int} (h : (tyS n d).isSome = true) : WlOk n d (coR n d) := by
  obtain ⟨ks, hk⟩ := Option.isSome_iff_exists.1 h
  obtain ⟨m, rfl, h1, h4, hd⟩ := tyS_cand hk
  obtain ⟨hw, hy⟩ := chkWs_all h1 h4 hd
  simp only [chkW, chkCo, List.all_eq_true, Bool.and_eq_true, Bool.or_eq_true, decide_eq_true_eq, beq_iff_eq, List.mem_range, List.any_eq_true] at hw
  obtain ⟨⟨hA, hB⟩, hC⟩ := hw
  have hY := Nat.le_of_ble_eq_true hy
  rw [frcCs_eq, frc_eq] at hY
  have hn : ((m : Int).toNat) = m := rfl
  refine ⟨⟨fun b hb => (hA b hb).1.1, fun b hb => getD_of_all (List.all_eq_true.2 fun x hx => decide_eq_true ((hA b hb).1.2 x hx)), fun b hb => ?_, hB, fun i hi => List.contains_iff_mem.1 (hC i hi).1.1.1, fun i hi => List.isPerm_iff.1 (hC i hi).1.1.2, fun i hi => (hC i hi).1.2⟩, ⟨by omega, fun i hi => (hC i hi).1.2, fun i k hi hk hne => ?_⟩, hY⟩
  · obtain ⟨x, hx, h1x⟩ := (hA b hb).2
    obtain ⟨k, hk, e⟩ := List.getElem_of_mem hx
    refine ⟨k, ?_, ?_⟩
    · rw [← (hA b hb).1.1]
      exact hk
    · rw [List.getD, List.getElem?_eq_getElem hk, e]
      exact h1x
  · rcases (hC i hi).2 k hk with e | e
    · exact absurd e hne
    · exact e
end Go.Proofs.YtgelkakjmbiibaaGreatDoor

namespace Go.Proofs.YtgelkakjmbiibaaGreatDoor
set_option linter.unusedVariables false
set_option linter.unusedSimpArgs false
def colW (n : Int) (d : List Int) (i : Nat) : List Int := (List.range n.toNat).map fun (k : Nat) => atI n d k i
def lowW (n : Int) (w : List Int) (c : Int) (β : List Int) : List Int := (List.range n.toNat).map fun (k : Nat) => w.getD k 0 - c * β.getD k 0
theorem lowW_len (n : Int) (w : List Int) (c : Int) (β : List Int) : (lowW n w c β).length = n.toNat := by simp [lowW]
theorem lowW_get {n : Int} {w β : List Int} {c : Int} {k : Nat} (hk : k < n.toNat) : (lowW n w c β).getD k 0 = w.getD k 0 - c * β.getD k 0 := by simp [lowW, List.getD, hk]
theorem colW_get {n : Int} {d : List Int} {i k : Nat} (hk : k < n.toNat) : (colW n d i).getD k 0 = atI n d k i := by simp [colW, List.getD, hk]
structure RpOk (n : Int) (d : List Int) (P : List (List Int × List Int)) : Prop where
  len : ∀ p ∈ P, p.2.length = n.toNat
  ge : ∀ p ∈ P, ∀ k, 0 ≤ p.2.getD k 0
  two : ∀ p ∈ P, prW n p.1 p.2 = 2
  unit : ∀ i, i < n.toNat → (colW n d i, unitL n.toNat i) ∈ P
  perm : ∀ p ∈ P, ∀ i, i < n.toNat → p = (colW n d i, unitL n.toNat i) ∨ (rp n d i p.1, coS n d p.2 i) ∈ P
def Arr (n : Int) (P : List (List Int × List Int)) (u v : List Int) : Prop := ∃ p ∈ P, 0 < prW n u p.2 ∧ v = lowW n u (prW n u p.2) p.1
inductive Bel (n : Int) (P : List (List Int × List Int)) : List Int → List Int → Prop
  | refl (u : List Int) : Bel n P u u
  | head {u v w : List Int} : Arr n P u v → Bel n P v w → Bel n P u w
theorem Bel.trans {n : Int} {P : List (List Int × List Int)} {u v w : List Int} (h1 : Bel n P u v) (h2 : Bel n P v w) : Bel n P u w := by
  induction h1 with
  | refl => exact h2
  | head a _ ih => exact .head a (ih h2)
def mnR (n : Int) (d : List Int) (i : Nat) (x : List Int) : List Int := if x.getD i 0 < 0 then rp n d i x else x
theorem lowW_col {n : Int} {d u : List Int} {i : Nat} : lowW n u (u.getD i 0) (colW n d i) = rp n d i u := by
  refine ext_getD (by rw [lowW_len, rp_len]) fun k hk => ?_
  rw [lowW_len] at hk
  rw [lowW_get hk, rp_get hk, colW_get hk]
section
variable {n : Int} {d : List Int} {R : List (List Int)} {P : List (List Int × List Int)}
theorem Arr.simple (hP : RpOk n d P) {u : List Int} {i : Nat} (hi : i < n.toNat) (h0 : 0 < u.getD i 0) : Arr n P u (rp n d i u) :=
  ⟨_, hP.unit i hi, by rw [prW_unit hi]; exact h0, by rw [prW_unit hi, lowW_col]⟩
theorem Arr.len {u v : List Int} (h : Arr n P u v) : v.length = n.toNat := by
  obtain ⟨_, _, _, rfl⟩ := h
  exact lowW_len _ _ _ _
theorem rp_low {u β : List Int} {c : Int} {i : Nat} (hi : i < n.toNat) : rp n d i (lowW n u c β) = lowW n (rp n d i u) c (rp n d i β) := by
  refine ext_getD (by rw [lowW_len, rp_len]) fun k hk => ?_
  rw [rp_len] at hk
  rw [rp_get hk, lowW_get hk, lowW_get hi, lowW_get hk, rp_get hk, rp_get hk, Int.sub_mul, Int.mul_sub, Int.mul_assoc]
  omega
theorem Arr.move (hc : CoOk n d R) (hP : RpOk n d P) {u v : List Int} (hl : u.length = n.toNat) (h : Arr n P u v) {i : Nat} (hi : i < n.toNat) : (v = rp n d i u ∧ 0 < u.getD i 0) ∨ Arr n P (rp n d i u) (rp n d i v) := by
  obtain ⟨p, hp, h0, rfl⟩ := h
  rcases hP.perm p hp i hi with rfl | hq
  · rw [prW_unit hi] at h0
    exact .inl ⟨by rw [prW_unit hi, lowW_col], h0⟩
  · have e : prW n (rp n d i u) (coS n d p.2 i) = prW n u p.2 := by
      have := prW_rp (d := d) (w := rp n d i u) hi (hP.len p hp)
      rw [rp_rp hc hi hl] at this
      exact this.symm
    exact .inr ⟨_, hq, by rw [e]; exact h0, by rw [e, rp_low hi]⟩
theorem mnR_le (hc : CoOk n d R) (hP : RpOk n d P) {x : List Int} (hl : x.length = n.toNat) {i : Nat} (hi : i < n.toNat) : Bel n P (mnR n d i x) x ∧ Bel n P (mnR n d i x) (rp n d i x) := by
  unfold mnR
  split
  · rename_i h
    refine ⟨?_, .refl _⟩
    have h1 : 0 < (rp n d i x).getD i 0 := by rw [rp_get hi, hc.two i hi]; omega
    have h2 := Arr.simple hP hi h1
    rw [rp_rp hc hi hl] at h2
    exact .head h2 (.refl _)
  · rename_i h
    refine ⟨.refl _, ?_⟩
    by_cases h0 : 0 < x.getD i 0
    · exact .head (Arr.simple hP hi h0) (.refl _)
    · have e : rp n d i x = x := by
        refine ext_getD (by rw [rp_len, hl]) fun k hk => ?_
        rw [rp_len] at hk
        rw [rp_get hk, show x.getD i 0 = 0 by omega]
        omega
      rw [e]
      exact .refl _
theorem mnR_rp (hc : CoOk n d R) {x : List Int} (hl : x.length = n.toNat) {i : Nat} (hi : i < n.toNat) : mnR n d i x = x ∨ rp n d i (mnR n d i x) = x := by
  unfold mnR
  split
  · exact .inr (rp_rp hc hi hl)
  · exact .inl rfl
theorem Bel.lift1 (hc : CoOk n d R) (hP : RpOk n d P) {u v : List Int} {i : Nat} (hi : i < n.toNat) (h : Bel n P u v) : u.length = n.toNat → v.getD i 0 < 0 → Bel n P (mnR n d i u) (rp n d i v) := by
  induction h with
  | refl u =>
    intro _ hv
    rw [mnR, if_pos hv]
    exact .refl _
  | @head u u' v a hb ih =>
    intro hl hv
    have ih' := ih a.len hv
    rcases a.move hc hP hl hi with ⟨e, h0⟩ | ha
    · have h1 : u'.getD i 0 < 0 := by rw [e, rp_get hi, hc.two i hi]; omega
      rw [mnR, if_pos h1, e, rp_rp hc hi hl] at ih'
      rw [mnR, if_neg (by omega)]
      exact ih'
    · by_cases h1 : u'.getD i 0 < 0
      · rw [mnR, if_pos h1] at ih'
        exact (mnR_le hc hP hl hi).2.trans (.head ha ih')
      · rw [mnR, if_neg h1] at ih'
        exact (mnR_le hc hP hl hi).1.trans (.head a ih')
theorem Bel.lift2 (hc : CoOk n d R) (hP : RpOk n d P) {m x : List Int} {i : Nat} (hi : i < n.toNat) (h : Bel n P m x) : m.length = n.toNat → 0 < x.getD i 0 → Bel n P m (rp n d i x) ∧ Bel n P (rp n d i m) (rp n d i x) := by
  induction h with
  | refl x =>
    intro _ h0
    exact ⟨.head (Arr.simple hP hi h0) (.refl _), .refl _⟩
  | @head m m' x a hb ih =>
    intro hl h0
    obtain ⟨h1, h2⟩ := ih a.len h0
    refine ⟨.head a h1, ?_⟩
    rcases a.move hc hP hl hi with ⟨e, _⟩ | ha
    · rw [← e]
      exact h1
    · exact .head ha h2
theorem Bel.lift (hc : CoOk n d R) (hP : RpOk n d P) {u v : List Int} {i : Nat} (hi : i < n.toNat) (hu : u.length = n.toNat) (hl : v.length = n.toNat) (hv : v.getD i 0 < 0) : Bel n P u v ↔ Bel n P (mnR n d i u) (rp n d i v) := by
  refine ⟨fun h => h.lift1 hc hP hi hu hv, fun h => ?_⟩
  have hm : (mnR n d i u).length = n.toNat := by
    unfold mnR
    split
    · exact rp_len _ _ _ _
    · exact hu
  have h2 := h.lift2 hc hP hi hm (by rw [rp_get hi, hc.two i hi]; omega)
  rw [rp_rp hc hi hl] at h2
  rcases mnR_rp hc hu hi with e | e
  · rw [e] at h2
    exact h2.1
  · rw [e] at h2
    exact h2.2
theorem prW_low {u β b : List Int} {c : Int} : prW n (lowW n u c β) b = prW n u b - c * prW n β b := by
  have h : prW n (lowW n u c β) b = dotN (b.getD · 0) (fun k => u.getD k 0 - c * β.getD k 0) n.toNat := by
    rw [prW, dotN_comm]
    exact dotN_congr fun k hk => ⟨rfl, lowW_get hk⟩
  rw [h, dotN_sub, prW, prW, dotN_comm (b.getD · 0), dotN_comm (b.getD · 0)]
theorem Bel.dom (hP : RpOk n d P) {u v : List Int} (h : Bel n P u v) : (∀ k, k < n.toNat → 0 ≤ v.getD k 0) → u = v := by
  induction h with
  | refl => exact fun _ => rfl
  | @head u u' v a hb ih =>
    intro hv
    have e := ih hv
    subst e
    obtain ⟨p, hp, h0, e⟩ := a
    have h1 : 0 ≤ prW n u' p.2 := dotN_pos fun k hk => ⟨hv k hk, hP.ge p hp k⟩
    rw [e, prW_low, hP.two p hp] at h1
    omega
end
def lsn (w : List Int) (m : Nat) : Int := (List.range m).foldl (fun (a : Int) (i : Nat) => if w.getD i 0 < 0 then (i : Int) else a) (-1)
theorem lsn_succ (w : List Int) (m : Nat) : lsn w (m + 1) = if w.getD m 0 < 0 then (m : Int) else lsn w m := by
  unfold lsn
  rw [List.range_succ, List.foldl_append]
  rfl
theorem lsn_at (w : List Int) : ∀ m : Nat, (lsn w m = -1 ∧ ∀ j, j < m → 0 ≤ w.getD j 0) ∨ ∃ i : Nat, i < m ∧ lsn w m = (i : Int) ∧ w.getD i 0 < 0
  | 0 => .inl ⟨rfl, fun j hj => absurd hj (Nat.not_lt_zero j)⟩
  | m + 1 => by
    rw [lsn_succ]
    split
    · rename_i h
      exact .inr ⟨m, by omega, rfl, h⟩
    · rename_i h
      rcases lsn_at w m with ⟨h1, h2⟩ | ⟨i, h1, h2, h3⟩
      · refine .inl ⟨h1, fun j hj => ?_⟩
        by_cases e : j = m
        · subst e
          omega
        · exact h2 j (by omega)
      · exact .inr ⟨i, by omega, h2, h3⟩
def blM (n : Int) (d u v : List Int) : List Int := if u.getD (lsn v n.toNat).toNat 0 < 0 then rfF n d (lsn v n.toNat) u else u
def blS (n : Int) (d : List Int) : Nat → List Int → List Int → Bool
  | 0, _, _ => false
  | f + 1, u, v => if lsn v n.toNat < 0 then samB u v else blS n d f (blM n d u v) (rfF n d (lsn v n.toNat) v)
section
variable {n : Int} {d : List Int} {R : List (List Int)} {P : List (List Int × List Int)}
theorem WlOk.mn (h : WlOk n d R) {u : List Int} (hu : Reach n d u) {i : Nat} (hi : i < n.toNat) : Reach n d (mnR n d i u) ∧ (if u.getD i 0 < 0 then rfF n d (i : Int) u else u) = mnR n d i u := by
  unfold mnR
  split
  · exact ⟨hu.step hi, h.rf hu hi⟩
  · exact ⟨hu, rfl⟩
theorem WlOk.bl (h : WlOk n d R) (hP : RpOk n d P) : ∀ (f : Nat) {u v : List Int}, Reach n d u → Reach n d v → lnW n R v < f → (blS n d f u v = true ↔ Bel n P u v)
  | 0, _, _, _, _, hf => absurd hf (Nat.not_lt_zero _)
  | f + 1, u, v, hu, hv, hf => by
    rw [blS]
    have lu := (hu.inv h.co).1
    have lv := (hv.inv h.co).1
    rcases lsn_at v n.toNat with ⟨h1, h2⟩ | ⟨i, hi, h1, h3⟩
    · rw [if_pos (by omega)]
      constructor
      · intro e
        rw [samB_true e]
        exact .refl _
      · intro hb
        exact samB_of (hb.dom hP h2)
    · rw [if_neg (by omega), blM, h1, Int.toNat_natCast, (h.mn hu hi).2, h.rf hv hi]
      have hl := (h.co.ln hi v (by omega)).2 h3
      rw [h.bl hP f (h.mn hu hi).1 (hv.step hi) (by omega)]
      exact (Bel.lift h.co hP hi lu lv h3).symm
def subM (n : Int) (d : List Int) : List Int → List Int → Prop
  | [], x => x = ones n 1
  | i :: t, x => subM n d t x ∨ ∃ w, subM n d t w ∧ x = rfF n d i w
theorem WlOk.sub (h : WlOk n d R) (hP : RpOk n d P) : ∀ (f : Nat) {v x word : List Int}, Reach n d v → climb n d f v = some (x, word) → ∀ z, subM n d word z ↔ Reach n d z ∧ Bel n P z v
  | 0, v, x, word, _, hc => by cases hc
  | f + 1, v, x, word, hv, hc => by
    intro z
    have lv := (hv.inv h.co).1
    by_cases hf : fpos v < 0
    · obtain ⟨_, e2⟩ := climb_end hc hf
      subst e2
      have hnn : ∀ k, k < n.toNat → 0 ≤ v.getD k 0 := fun k hk => by
        unfold fpos posF at hf
        split at hf
        · omega
        · rename_i hn
          have := List.findIdx?_eq_none_iff.1 hn (v.getD k 0) (by rw [List.getD, List.getElem?_eq_getElem (by omega)]; exact List.getElem_mem _)
          have := of_decide_eq_false this
          omega
      have ev := hv.dom h.co hnn
      rw [subM]
      constructor
      · intro e
        rw [e, ← ev]
        exact ⟨hv, .refl _⟩
      · rintro ⟨_, hb⟩
        rw [← ev]
        exact hb.dom hP hnn
    · obtain ⟨g, z', e1, h2, e3⟩ := climb_step hc hf
      obtain rfl : f = g := by omega
      subst e3
      obtain ⟨a1, a2, a3⟩ := fpos_at hf
      have hi : (fpos v).toNat < n.toNat := by omega
      have ei : fpos v = ((fpos v).toNat : Int) := by omega
      generalize (fpos v).toNat = i at *
      rw [ei, h.rf hv hi] at h2
      have ih := h.sub hP f (hv.step hi) h2
      rw [subM, ih, ei]
      constructor
      · rintro (⟨hz, hb⟩ | ⟨w, hw, e⟩)
        · have lz := (hz.inv h.co).1
          exact ⟨hz, (Bel.lift h.co hP hi lz lv a3).2 ((mnR_le h.co hP lz hi).1.trans hb)⟩
        · obtain ⟨hw1, hw2⟩ := (ih w).1 hw
          have lw := (hw1.inv h.co).1
          rw [h.rf hw1 hi] at e
          subst e
          have := (mnR_le h.co hP (rp_len n d i w) hi).2
          rw [rp_rp h.co hi lw] at this
          exact ⟨hw1.step hi, (Bel.lift h.co hP hi (rp_len n d i w) lv a3).2 (this.trans hw2)⟩
      · rintro ⟨hz, hb⟩
        have lz := (hz.inv h.co).1
        have hb2 := (Bel.lift h.co hP hi lz lv a3).1 hb
        have hm := (h.mn hz hi).1
        rcases mnR_rp h.co lz hi with e | e
        · rw [e] at hb2
          exact .inl ⟨hz, hb2⟩
        · exact .inr ⟨mnR n d i z, (ih _).2 ⟨hm, hb2⟩, by rw [h.rf hm hi, e]⟩
end
end Go.Proofs.YtgelkakjmbiibaaGreatDoor
