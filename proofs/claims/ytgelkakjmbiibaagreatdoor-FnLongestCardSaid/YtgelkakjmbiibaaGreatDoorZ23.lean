/-
  Lengths of elements and of normal words. No program is spoken of.
-/
import Derived.Test.YtgelkakjmbiibaaGreatDoorZ27
import Derived.Test.YtgelkakjmbiibaaGreatDoorLvN
import Derived.Test.YtgelkakjmbiibaaGreatDoorCarW
namespace Go.Proofs.YtgelkakjmbiibaaGreatDoor
set_option linter.unusedVariables false
set_option linter.unusedSimpArgs false
section
variable {n : Int} {d : List Int} {R : List (List Int)}
theorem fpos_none {w : List Int} {m : Nat} (hl : w.length = m) (hf : fpos w < 0) : ∀ k, k < m → 0 ≤ w.getD k 0 := fun k hk => by
  unfold fpos posF at hf
  split at hf
  · omega
  · rename_i hn
    have := List.findIdx?_eq_none_iff.1 hn (w.getD k 0) (by rw [List.getD, List.getElem?_eq_getElem (by omega)]; exact List.getElem_mem _)
    have := of_decide_eq_false this
    omega
theorem WlOk.climb (h : WlOk n d R) : ∀ (f : Nat) {w x y : List Int}, Reach n d w → Proofs.YtgelkakjmbiibaaGreatDoor.climb n d f w = some (x, y) → y.length = lnW n R w ∧ actF n d y (ones n 1) = w ∧ ∀ z ∈ y, 0 ≤ z ∧ z < n
  | 0, _, _, _, _, hc => by cases hc
  | f + 1, w, x, y, hw, hc => by
    have lw := (hw.inv h.co).1
    by_cases hf : fpos w < 0
    · obtain ⟨_, e2⟩ := climb_end hc hf
      subst e2
      have e := hw.dom h.co (fpos_none lw hf)
      subst e
      refine ⟨(((h.lev 0).2 _).1 (List.mem_singleton.2 rfl)).2.symm, rfl, fun z hz => by simp at hz⟩
    · obtain ⟨g, z, e1, h2, e3⟩ := climb_step hc hf
      obtain rfl : f = g := by omega
      subst e3
      obtain ⟨a1, a2, a3⟩ := fpos_at hf
      have hi : (fpos w).toNat < n.toNat := by omega
      have ei : fpos w = ((fpos w).toNat : Int) := by omega
      generalize (fpos w).toNat = i at *
      rw [ei, h.rf hw hi] at h2
      obtain ⟨b1, b2, b3⟩ := h.climb f (hw.step hi) h2
      refine ⟨?_, ?_, fun q hq => ?_⟩
      · rw [List.length_cons, b1, (h.co.ln hi w (by omega)).2 a3]
      · show rfF n d (fpos w) (actF n d z (ones n 1)) = w
        rw [b2, ei, h.rf (hw.step hi) hi, rp_rp h.co hi lw]
      · rcases List.mem_cons.1 hq with rfl | hq
        · omega
        · exact b3 q hq
theorem Reach.bd (h : WlOk n d R) (hp : PhOk n d) {w : List Int} (hw : Reach n d w) : Bd n d w := by
  induction hw with
  | one => exact Bd.up hp
  | step hr hi ih =>
    rw [← h.rf hr hi]
    exact ih.refl hp ⟨by omega, by rw [Int.toNat_natCast, (hr.inv h.co).1]; exact hi⟩
theorem WlOk.nw (h : WlOk n d R) (hp : PhOk n d) {w : List Int} (hw : Reach n d w) : (nwF n d w).length = lnW n R w ∧ actF n d (nwF n d w) (ones n 1) = w ∧ ∀ z ∈ nwF n d w, 0 ≤ z ∧ z < n := by
  obtain ⟨x, hx⟩ := climb_ok hp (hw.bd h hp)
  exact h.climb _ hw hx
theorem WlOk.lnR (h : WlOk n d R) (w : List Int) : lnW n R w ≤ R.length := List.countP_le_length
theorem WlOk.lvNe (h : WlOk n d R) : ∀ j : Nat, j ≤ R.length → lvAt n d j ≠ []
  | 0, _ => by simp [lvAt]
  | j + 1, hj => by
    obtain ⟨w, hw⟩ := List.exists_mem_of_ne_nil _ (h.lvNe j (by omega))
    obtain ⟨hr, hln⟩ := ((h.lev j).2 w).1 hw
    have : ∃ i, i < n.toNat ∧ 0 < w.getD i 0 := by
      by_cases hn : ∀ i, i < n.toNat → ¬ 0 < w.getD i 0
      · exfalso
        have hall : ∀ b ∈ R, decide (prW n w b < 0) = true := fun b hb => by
          obtain ⟨k, hk, h1⟩ := h.co.nz b hb
          have h2 := dotN_gt (c := fun q => -(w.getD q 0)) (w := (b.getD · 0)) (j := k) (m := n.toNat) (fun q hq => ⟨by have := hn q hq; omega, h.co.ge b hb q⟩) hk (by have := hn k hk; have := hr.nz h.co hk; omega) h1
          have h3 : dotN (fun q => -(w.getD q 0)) (b.getD · 0) n.toNat = -(prW n w b) := by
            rw [dotN_comm, dotN_neg, prW, dotN_comm]
          exact decide_eq_true (by omega)
        have := List.countP_eq_length.2 hall
        unfold lnW at hln
        omega
      · obtain ⟨i, hi⟩ := Classical.not_forall.1 hn
        have hi3 := Classical.not_imp.1 hi
        exact ⟨i, hi3.1, by omega⟩
    obtain ⟨i, hi, hp⟩ := this
    intro e
    have := ((h.lev (j + 1)).2 (rp n d i w)).2 ⟨hr.step hi, by rw [(h.co.ln hi w (by omega)).1 hp, hln]⟩
    rw [e] at this
    simp at this
end
end Go.Proofs.YtgelkakjmbiibaaGreatDoor

namespace Go.Proofs.YtgelkakjmbiibaaGreatDoor
set_option linter.unusedVariables false
set_option linter.unusedSimpArgs false
theorem sum_map_eq {α : Type} {g t : α → Nat} : ∀ {l : List α}, (∀ x ∈ l, g x = t x) → (l.map g).sum = (l.map t).sum
  | [], _ => rfl
  | y :: l, h => by rw [List.map_cons, List.sum_cons, List.map_cons, List.sum_cons, h y List.mem_cons_self, sum_map_eq (l := l) fun x hx => h x (List.mem_cons_of_mem _ hx)]
section
variable {n : Int} {d : List Int} {R : List (List Int)}
theorem mnF_getT (w : List Int) (k : Nat) : (mnF w).getD k 0 = -(w.getD k 0) := by
  by_cases hk : k < w.length
  · simp [mnF, List.getD, hk]
  · simp [mnF, List.getD, List.getElem?_eq_none (Nat.le_of_not_lt hk)]
theorem rp_mn {w : List Int} {i : Nat} (hi : i < n.toNat) : rp n d i (mnF w) = mnF (rp n d i w) := by
  refine ext_getD (by rw [mnF_len, rp_len, rp_len]) fun k hk => ?_
  rw [rp_len] at hk
  rw [rp_get hk, mnF_getT, mnF_getT, mnF_getT, rp_get hk, Int.neg_mul]
  omega
theorem prW_mn (w b : List Int) : prW n (mnF w) b = -(prW n w b) := by
  unfold prW
  rw [dotN_comm, show dotN (b.getD · 0) ((mnF w).getD · 0) n.toNat = dotN (b.getD · 0) (fun k => -(w.getD k 0)) n.toNat from dotN_congr fun k _ => ⟨rfl, mnF_getT w k⟩, dotN_neg, dotN_comm]
theorem Reach.neg1 (h : WlOk n d R) : Reach n d (mnF (ones n 1)) := by
  obtain ⟨w, hw⟩ := List.exists_mem_of_ne_nil _ (h.lvNe R.length (Nat.le_refl _))
  obtain ⟨hr, hln⟩ := ((h.lev R.length).2 w).1 hw
  have hall := List.countP_eq_length.1 hln
  have hdom : mnF w = ones n 1 := by
    obtain ⟨hl, hg, hs⟩ := hr.inv h.co
    have h1 : ∀ k, k < n.toNat → 1 ≤ (mnF w).getD k 0 := fun k hk => by
      have := of_decide_eq_true (hall _ (h.co.unit k hk))
      rw [prW_unit hk] at this
      rw [mnF_getT]
      omega
    have h0 : ∀ b ∈ R, 0 ≤ prW n (ones n 1) b ∧ prW n (ones n 1) b ≤ prW n (mnF w) b := fun b hb => ⟨dotN_pos fun k hk => ⟨by rw [ones_get hk]; omega, h.co.ge b hb k⟩, dotN_mono fun k hk => ⟨h.co.ge b hb k, by rw [ones_get hk]; exact h1 k hk⟩⟩
    have hs2 : smW n R (mnF w) = smW n R (ones n 1) := by
      rw [← hs, smW, smW]
      exact sum_map_eq fun b _ => by rw [prW_mn, Int.natAbs_neg]
    have hq := sum_eq (f := fun b => (prW n (ones n 1) b).natAbs) (g := fun b => (prW n (mnF w) b).natAbs) (L := R) (fun b hb => by have := h0 b hb; omega) hs2
    refine ext_getD (by rw [mnF_len, hl, ones_len]) fun k hk => ?_
    rw [mnF_len, hl] at hk
    have h2 := hq _ (h.co.unit k hk)
    have h3 := h0 _ (h.co.unit k hk)
    rw [prW_unit hk, prW_unit hk] at h2 h3
    omega
  have : w = mnF (ones n 1) := by
    rw [← hdom]
    refine ext_getD (by rw [mnF_len, mnF_len]) fun k _ => ?_
    rw [mnF_getT, mnF_getT]
    omega
  rw [← this]
  exact hr
theorem Reach.mn (h : WlOk n d R) {w : List Int} (hw : Reach n d w) : Reach n d (mnF w) := by
  induction hw with
  | one => exact Reach.neg1 h
  | step hr hi ih =>
    rw [← rp_mn hi]
    exact ih.step hi
theorem lnW_mn (h : WlOk n d R) {w : List Int} (hw : Reach n d w) : lnW n R (mnF w) + lnW n R w = R.length := by
  have hg := (hw.inv h.co).2.1
  have key : ∀ L : List (List Int), (∀ b ∈ L, prW n w b ≠ 0) → L.countP (fun b => decide (prW n (mnF w) b < 0)) + L.countP (fun b => decide (prW n w b < 0)) = L.length := by
    intro L
    induction L with
    | nil => intro _; rfl
    | cons b L ih =>
      intro hL
      have h1 := hL b List.mem_cons_self
      have h2 := ih fun c hc => hL c (List.mem_cons_of_mem _ hc)
      simp only [List.countP_cons, prW_mn] at h2 ⊢
      by_cases h3 : prW n w b < 0
      · rw [if_neg (by rw [decide_eq_true_eq]; omega), if_pos (by rw [decide_eq_true_eq]; omega), List.length_cons]
        omega
      · rw [if_pos (by rw [decide_eq_true_eq]; omega), if_neg (by rw [decide_eq_true_eq]; omega), List.length_cons]
        omega
  exact key R hg
end
end Go.Proofs.YtgelkakjmbiibaaGreatDoor

namespace Go.Proofs.YtgelkakjmbiibaaGreatDoor
set_option linter.unusedVariables false
set_option linter.unusedSimpArgs false
def acN (n : Int) (d word w : List Int) : List Int := word.foldr (fun i o => rp n d i.toNat o) w
def rngW (n : Int) (word : List Int) : Prop := ∀ y ∈ word, 0 ≤ y ∧ y < n
theorem acN_len {n : Int} {d w : List Int} (hl : w.length = n.toNat) : ∀ word : List Int, (acN n d word w).length = n.toNat
  | [] => hl
  | i :: t => rp_len _ _ _ _
theorem acN_app (n : Int) (d u v w : List Int) : acN n d (u ++ v) w = acN n d u (acN n d v w) := by rw [acN, List.foldr_append]; rfl
theorem actF_app (n : Int) (d u v w : List Int) : actF n d (u ++ v) w = actF n d u (actF n d v w) := by rw [actF, List.foldr_append]; rfl
def linI (n : Int) (f : List Int → List Int) : Prop := ∀ w : List Int, w.length = n.toNat → ∀ k, k < n.toNat → (f w).getD k 0 = dotN (w.getD · 0) (fun j => (f (unitL n.toNat j)).getD k 0) n.toNat
theorem dotN_units (w : Nat → Int) (k : Nat) : ∀ m : Nat, dotN w (fun j => if k = j then 1 else 0) m = if k < m then w k else 0
  | 0 => by simp [dotN]
  | m + 1 => by
    rw [dotN, dotN_units w k m]
    by_cases h : k = m
    · subst h
      simp
    · rw [if_neg h]
      by_cases h2 : k < m
      · rw [if_pos h2, if_pos (by omega)]
        omega
      · rw [if_neg h2, if_neg (by omega)]
        omega
theorem acN_lin {n : Int} {d : List Int} : ∀ {word : List Int}, rngW n word → linI n (acN n d word)
  | [], _ => fun w hw k hk => by
    show w.getD k 0 = _
    have e : dotN (w.getD · 0) (fun j => (unitL n.toNat j).getD k 0) n.toNat = dotN (w.getD · 0) (fun j => if k = j then 1 else 0) n.toNat := dotN_congr fun j hj => ⟨rfl, unitL_get hk⟩
    refine Eq.trans ?_ e.symm
    rw [dotN_units, if_pos hk]
  | i :: t, h => fun w hw k hk => by
    have ih := acN_lin (d := d) (word := t) fun y hy => h y (List.mem_cons_of_mem _ hy)
    have hi := h i List.mem_cons_self
    have e1 : ∀ v, (acN n d (i :: t) v).getD k 0 = (acN n d t v).getD k 0 - (acN n d t v).getD i.toNat 0 * atI n d k i.toNat := fun v => rp_get hk
    rw [e1, ih w hw k hk, ih w hw i.toNat (by omega)]
    have e2 : dotN (w.getD · 0) (fun j => (acN n d (i :: t) (unitL n.toNat j)).getD k 0) n.toNat = dotN (w.getD · 0) (fun j => (acN n d t (unitL n.toNat j)).getD k 0 - atI n d k i.toNat * (acN n d t (unitL n.toNat j)).getD i.toNat 0) n.toNat := dotN_congr fun j hj => ⟨rfl, by rw [e1, Int.mul_comm (atI n d k i.toNat)]⟩
    refine Eq.trans ?_ e2.symm
    rw [dotN_sub, Int.mul_comm]
theorem lin_eq {n : Int} {f g : List Int → List Int} (hf : linI n f) (hg : linI n g) (h : ∀ j, j < n.toNat → f (unitL n.toNat j) = g (unitL n.toNat j)) {w : List Int} (hw : w.length = n.toNat) (lf : (f w).length = n.toNat) (lg : (g w).length = n.toNat) : f w = g w := by
  refine ext_getD (by rw [lf, lg]) fun k hk => ?_
  rw [lf] at hk
  rw [hf w hw k hk, hg w hw k hk]
  exact dotN_congr fun j hj => ⟨rfl, by rw [h j hj]⟩
theorem dotN_abs {w c : Nat → Int} {A B : Int} (hA : 0 ≤ A) (hB : 0 ≤ B) : ∀ {m : Nat}, (∀ j, j < m → (-A ≤ w j ∧ w j ≤ A) ∧ -B ≤ c j ∧ c j ≤ B) → -(A * B * m) ≤ dotN w c m ∧ dotN w c m ≤ A * B * m
  | 0, _ => by simp [dotN]
  | m + 1, h => by
    have ih := dotN_abs hA hB (m := m) fun j hj => h j (by omega)
    obtain ⟨⟨h1, h2⟩, h3, h4⟩ := h m (by omega)
    have a1 := Int.mul_nonneg (show 0 ≤ A - w m by omega) (show 0 ≤ B - c m by omega)
    have a2 := Int.mul_nonneg (show 0 ≤ A + w m by omega) (show 0 ≤ B + c m by omega)
    have a3 := Int.mul_nonneg (show 0 ≤ A - w m by omega) (show 0 ≤ B + c m by omega)
    have a4 := Int.mul_nonneg (show 0 ≤ A + w m by omega) (show 0 ≤ B - c m by omega)
    simp only [Int.sub_mul, Int.mul_sub, Int.add_mul, Int.mul_add] at a1 a2 a3 a4
    have e : A * B * ((m + 1 : Nat) : Int) = A * B * m + A * B := by rw [Int.natCast_add, Int.mul_add]; simp
    rw [e, dotN]
    omega
structure GrOk (n : Int) (d : List Int) : Prop where
  n4 : n.toNat ≤ 4
  pos : 0 < n
  ents : ∀ i k : Nat, -3 ≤ atI n d i k ∧ atI n d i k ≤ 3
  same : ∀ w, Reach n d w → ∀ i : Nat, i < n.toNat → ∀ j, j < n.toNat → acN n d ((i : Int) :: nwF n d w) (unitL n.toNat j) = acN n d (nwF n d (rp n d i w)) (unitL n.toNat j)
  ent : ∀ w, Reach n d w → ∀ j, j < n.toNat → ∀ k, -10 ≤ (acN n d (nwF n d w) (unitL n.toNat j)).getD k 0 ∧ (acN n d (nwF n d w) (unitL n.toNat j)).getD k 0 ≤ 10
  down : ∀ w, Reach n d w → ∀ i : Nat, i < n.toNat → w.getD i 0 < 0 → ∀ j, j < n.toNat → (acN n d (nwF n d w) (unitL n.toNat j)).getD i 0 ≤ 0
section
variable {n : Int} {d : List Int} {R : List (List Int)}
theorem acN_reach {word : List Int} (h : rngW n word) : Reach n d (acN n d word (ones n 1)) := by
  induction word with
  | nil => exact Reach.one
  | cons i t ih =>
    have hi := h i List.mem_cons_self
    exact (ih fun y hy => h y (List.mem_cons_of_mem _ hy)).step (by omega)
theorem nw_rng (h : WlOk n d R) (hp : PhOk n d) {w : List Int} (hw : Reach n d w) : rngW n (nwF n d w) := (h.nw hp hw).2.2
theorem nw_one (h : WlOk n d R) (hp : PhOk n d) : nwF n d (ones n 1) = [] := by
  have h1 := (h.nw hp Reach.one).1
  rw [(((h.lev 0).2 _).1 (List.mem_singleton.2 rfl)).2] at h1
  exact List.eq_nil_of_length_eq_zero h1
theorem GrOk.norm (g : GrOk n d) (h : WlOk n d R) (hp : PhOk n d) : ∀ {word : List Int}, rngW n word → ∀ {x : List Int}, x.length = n.toNat → acN n d word x = acN n d (nwF n d (acN n d word (ones n 1))) x
  | [], _, x, _ => by
    show x = acN n d (nwF n d (ones n 1)) x
    rw [nw_one h hp]
    rfl
  | i :: t, hr, x, hx => by
    have hi := hr i List.mem_cons_self
    have ht : rngW n t := fun y hy => hr y (List.mem_cons_of_mem _ hy)
    have ih := g.norm h hp ht hx
    have hw := acN_reach (d := d) ht
    have e0 : acN n d (i :: t) x = rp n d i.toNat (acN n d t x) := rfl
    have ei : ((i.toNat : Nat) : Int) = i := by omega
    have hn := nw_rng h hp hw
    have hn2 := nw_rng h hp (hw.step (i := i.toNat) (by omega))
    have hc : rngW n (((i.toNat : Nat) : Int) :: nwF n d (acN n d t (ones n 1))) := fun y hy => by
      rcases List.mem_cons.1 hy with rfl | hy
      · omega
      · exact hn y hy
    rw [e0, ih]
    exact lin_eq (f := fun v => acN n d (((i.toNat : Nat) : Int) :: nwF n d (acN n d t (ones n 1))) v) (g := fun v => acN n d (nwF n d (rp n d i.toNat (acN n d t (ones n 1)))) v) (acN_lin hc) (acN_lin hn2) (fun j hj => g.same _ hw _ (by omega) j hj) hx (acN_len hx _) (acN_len hx _)
theorem GrOk.bound (g : GrOk n d) (h : WlOk n d R) (hp : PhOk n d) {word : List Int} (hr : rngW n word) {x : List Int} {B : Int} (hB : 0 ≤ B) (hx : x.length = n.toNat) (hb : ∀ k, k < n.toNat → -B ≤ x.getD k 0 ∧ x.getD k 0 ≤ B) {k : Nat} (hk : k < n.toNat) : -(40 * B) ≤ (acN n d word x).getD k 0 ∧ (acN n d word x).getD k 0 ≤ 40 * B := by
  have hw := acN_reach (d := d) hr
  rw [g.norm h hp hr hx, acN_lin (nw_rng h hp hw) x hx k hk]
  have h1 := dotN_abs (w := (x.getD · 0)) (c := fun j => (acN n d (nwF n d (acN n d word (ones n 1))) (unitL n.toNat j)).getD k 0) (A := B) (B := 10) hB (by omega) (m := n.toNat) fun j hj => ⟨hb j hj, g.ent _ hw j hj k⟩
  have h4 := g.n4
  have e : B * 10 * (n.toNat : Int) ≤ B * 10 * 4 := Int.mul_le_mul_of_nonneg_left (by omega) (by omega)
  omega
theorem rf_rp {i : Int} {x : List Int} {B : Int} (he : ∀ i k : Nat, -3 ≤ atI n d i k ∧ atI n d i k ≤ 3) (hB : 0 ≤ B ∧ B ≤ 1000000) (hl : x.length = n.toNat) (hb : ∀ k, k < n.toNat → -B ≤ x.getD k 0 ∧ x.getD k 0 ≤ B) (hi : 0 ≤ i ∧ i < n) : rfF n d i x = rp n d i.toNat x := by
  refine ext_getD (by rw [rfF_len, rp_len, hl]) fun k hk => ?_
  rw [rfF_len, hl] at hk
  rw [rfF_get (by omega), rp_get hk, show (k : Int) = ((k : Nat) : Int) from rfl]
  have h1 := hb k hk
  have h2 := hb i.toNat (by omega)
  have h3 := he k i.toNat
  have ei : ((i.toNat : Nat) : Int) = i := by omega
  rw [ei] at h3 ⊢
  have a1 := Int.mul_nonneg (show 0 ≤ B - x.getD i.toNat 0 by omega) (show 0 ≤ 3 - atI n d k i by omega)
  have a2 := Int.mul_nonneg (show 0 ≤ B + x.getD i.toNat 0 by omega) (show 0 ≤ 3 + atI n d k i by omega)
  have a3 := Int.mul_nonneg (show 0 ≤ B - x.getD i.toNat 0 by omega) (show 0 ≤ 3 + atI n d k i by omega)
  have a4 := Int.mul_nonneg (show 0 ≤ B + x.getD i.toNat 0 by omega) (show 0 ≤ 3 - atI n d k i by omega)
  simp only [Int.sub_mul, Int.mul_sub, Int.add_mul, Int.mul_add] at a1 a2 a3 a4
  rw [wrap_in (x := x.getD i.toNat 0 * atI n d k i) (by omega) (by omega), wrap_in (by omega) (by omega)]
theorem GrOk.act (g : GrOk n d) (h : WlOk n d R) (hp : PhOk n d) {x : List Int} {B : Int} (hB : 0 ≤ B ∧ B ≤ 20000) (hx : x.length = n.toNat) (hb : ∀ k, k < n.toNat → -B ≤ x.getD k 0 ∧ x.getD k 0 ≤ B) : ∀ {word : List Int}, rngW n word → actF n d word x = acN n d word x
  | [], _ => rfl
  | i :: t, hr => by
    have hi := hr i List.mem_cons_self
    have ht : rngW n t := fun y hy => hr y (List.mem_cons_of_mem _ hy)
    have ih := g.act h hp hB hx hb ht
    show rfF n d i (actF n d t x) = rp n d i.toNat (acN n d t x)
    rw [ih]
    exact rf_rp (B := 40 * B) g.ents (by omega) (acN_len hx _) (fun k hk => g.bound h hp ht hB.1 hx hb hk) hi
end
end Go.Proofs.YtgelkakjmbiibaaGreatDoor
