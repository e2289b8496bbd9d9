/-
  Lengths of elements and of normal words. No program is spoken of.
-/
import Derived.Test.YtgelkakjmbiibaaGreatDoorCoR
import Derived.Test.YtgelkakjmbiibaaGreatDoorLvN
import Derived.Test.YtgelkakjmbiibaaGreatDoorCarW
namespace Go.Proofs.YtgelkakjmbiibaaGreatDoor
set_option linter.unusedVariables false
set_option linter.unusedSimpArgs false
section
variable {n : Int} {d : List Int} {R : List (List Int)}
theorem fpos_none {w : List Int} {m : Nat} (hl : w.length = m) (hf : fpos w < 0) : ∀ k, k < m → 0 ≤ w.getD k 0 := fun k hk => by
  unfold fpos posF at hf
  split at hf
  · omega
  · rename_i hn
    have := List.findIdx?_eq_none_iff.1 hn (w.getD k 0) (by rw [List.getD, List.getElem?_eq_getElem (by omega)]; exact List.getElem_mem _)
    have := of_decide_eq_false this
    omega
theorem WlOk.climb (h : WlOk n d R) : ∀ (f : Nat) {w x y : List Int}, Reach n d w → Proofs.YtgelkakjmbiibaaGreatDoor.climb n d f w = some (x, y) → y.length = lnW n R w ∧ actF n d y (ones n 1) = w ∧ ∀ z ∈ y, 0 ≤ z ∧ z < n
  | 0, _, _, _, _, hc => by cases hc
  | f + 1, w, x, y, hw, hc => by
    have lw := (hw.inv h.co).1
    by_cases hf : fpos w < 0
    · obtain ⟨_, e2⟩ := climb_end hc hf
      subst e2
      have e := hw.dom h.co (fpos_none lw hf)
      subst e
      refine ⟨(((h.lev 0).2 _).1 (List.mem_singleton.2 rfl)).2.symm, rfl, fun z hz => by simp at hz⟩
    · obtain ⟨g, z, e1, h2, e3⟩ := climb_step hc hf
      obtain rfl : f = g := by omega
      subst e3
      obtain ⟨a1, a2, a3⟩ := fpos_at hf
      have hi : (fpos w).toNat < n.toNat := by omega
      have ei : fpos w = ((fpos w).toNat : Int) := by omega
      generalize (fpos w).toNat = i at *
      rw [ei, h.rf hw hi] at h2
      obtain ⟨b1, b2, b3⟩ := h.climb f (hw.step hi) h2
      refine ⟨?_, ?_, fun q hq => ?_⟩
      · rw [List.length_cons, b1, (h.co.ln hi w (by omega)).2 a3]
      · show rfF n d (fpos w) (actF n d z (ones n 1)) = w
        rw [b2, ei, h.rf (hw.step hi) hi, rp_rp h.co hi lw]
      · rcases List.mem_cons.1 hq with rfl | hq
        · omega
        · exact b3 q hq
theorem Reach.bd (h : WlOk n d R) (hp : PhOk n d) {w : List Int} (hw : Reach n d w) : Bd n d w := by
  induction hw with
  | one => exact Bd.up hp
  | step hr hi ih =>
    rw [← h.rf hr hi]
    exact ih.refl hp ⟨by omega, by rw [Int.toNat_natCast, (hr.inv h.co).1]; exact hi⟩
theorem WlOk.nw (h : WlOk n d R) (hp : PhOk n d) {w : List Int} (hw : Reach n d w) : (nwF n d w).length = lnW n R w ∧ actF n d (nwF n d w) (ones n 1) = w ∧ ∀ z ∈ nwF n d w, 0 ≤ z ∧ z < n := by
  obtain ⟨x, hx⟩ := climb_ok hp (hw.bd h hp)
  exact h.climb _ hw hx
end
end Go.Proofs.YtgelkakjmbiibaaGreatDoor

namespace Go.Proofs.YtgelkakjmbiibaaGreatDoor
set_option linter.unusedVariables false
set_option linter.unusedSimpArgs false
def acN (n : Int) (d word w : List Int) : List Int := word.foldr (fun i o => rp n d i.toNat o) w
def rngW (n : Int) (word : List Int) : Prop := ∀ y ∈ word, 0 ≤ y ∧ y < n
theorem acN_len {n : Int} {d w : List Int} (hl : w.length = n.toNat) : ∀ word : List Int, (acN n d word w).length = n.toNat
  | [] => hl
  | i :: t => rp_len _ _ _ _
theorem acN_app (n : Int) (d u v w : List Int) : acN n d (u ++ v) w = acN n d u (acN n d v w) := by rw [acN, List.foldr_append]; rfl
theorem actF_app (n : Int) (d u v w : List Int) : actF n d (u ++ v) w = actF n d u (actF n d v w) := by rw [actF, List.foldr_append]; rfl
def linI (n : Int) (f : List Int → List Int) : Prop := ∀ w : List Int, w.length = n.toNat → ∀ k, k < n.toNat → (f w).getD k 0 = dotN (w.getD · 0) (fun j => (f (unitL n.toNat j)).getD k 0) n.toNat
theorem dotN_units (w : Nat → Int) (k : Nat) : ∀ m : Nat, dotN w (fun j => if k = j then 1 else 0) m = if k < m then w k else 0
  | 0 => by simp [dotN]
  | m + 1 => by
    rw [dotN, dotN_units w k m]
    by_cases h : k = m
    · subst h
      simp
    · rw [if_neg h]
      by_cases h2 : k < m
      · rw [if_pos h2, if_pos (by omega)]
        omega
      · rw [if_neg h2, if_neg (by omega)]
        omega
theorem acN_lin {n : Int} {d : List Int} : ∀ {word : List Int}, rngW n word → linI n (acN n d word)
  | [], _ => fun w hw k hk => by
    show w.getD k 0 = _
    have e : dotN (w.getD · 0) (fun j => (unitL n.toNat j).getD k 0) n.toNat = dotN (w.getD · 0) (fun j => if k = j then 1 else 0) n.toNat := dotN_congr fun j hj => ⟨rfl, unitL_get hk⟩
    refine Eq.trans ?_ e.symm
    rw [dotN_units, if_pos hk]
  | i :: t, h => fun w hw k hk => by
    have ih := acN_lin (d := d) (word := t) fun y hy => h y (List.mem_cons_of_mem _ hy)
    have hi := h i List.mem_cons_self
    have e1 : ∀ v, (acN n d (i :: t) v).getD k 0 = (acN n d t v).getD k 0 - (acN n d t v).getD i.toNat 0 * atI n d k i.toNat := fun v => rp_get hk
    rw [e1, ih w hw k hk, ih w hw i.toNat (by omega)]
    have e2 : dotN (w.getD · 0) (fun j => (acN n d (i :: t) (unitL n.toNat j)).getD k 0) n.toNat = dotN (w.getD · 0) (fun j => (acN n d t (unitL n.toNat j)).getD k 0 - atI n d k i.toNat * (acN n d t (unitL n.toNat j)).getD i.toNat 0) n.toNat := dotN_congr fun j hj => ⟨rfl, by rw [e1, Int.mul_comm (atI n d k i.toNat)]⟩
    refine Eq.trans ?_ e2.symm
    rw [dotN_sub, Int.mul_comm]
theorem lin_eq {n : Int} {f g : List Int → List Int} (hf : linI n f) (hg : linI n g) (h : ∀ j, j < n.toNat → f (unitL n.toNat j) = g (unitL n.toNat j)) {w : List Int} (hw : w.length = n.toNat) (lf : (f w).length = n.toNat) (lg : (g w).length = n.toNat) : f w = g w := by
  refine ext_getD (by rw [lf, lg]) fun k hk => ?_
  rw [lf] at hk
  rw [hf w hw k hk, hg w hw k hk]
  exact dotN_congr fun j hj => ⟨rfl, by rw [h j hj]⟩
theorem dotN_abs {w c : Nat → Int} {A B : Int} (hA : 0 ≤ A) (hB : 0 ≤ B) : ∀ {m : Nat}, (∀ j, j < m → (-A ≤ w j ∧ w j ≤ A) ∧ -B ≤ c j ∧ c j ≤ B) → -(A * B * m) ≤ dotN w c m ∧ dotN w c m ≤ A * B * m
  | 0, _ => by simp [dotN]
  | m + 1, h => by
    have ih := dotN_abs hA hB (m := m) fun j hj => h j (by omega)
    obtain ⟨⟨h1, h2⟩, h3, h4⟩ := h m (by omega)
    have a1 := Int.mul_nonneg (show 0 ≤ A - w m by omega) (show 0 ≤ B - c m by omega)
    have a2 := Int.mul_nonneg (show 0 ≤ A + w m by omega) (show 0 ≤ B + c m by omega)
    have a3 := Int.mul_nonneg (show 0 ≤ A - w m by omega) (show 0 ≤ B + c m by omega)
    have a4 := Int.mul_nonneg (show 0 ≤ A + w m by omega) (show 0 ≤ B - c m by omega)
    simp only [Int.sub_mul, Int.mul_sub, Int.add_mul, Int.mul_add] at a1 a2 a3 a4
    have e : A * B * ((m + 1 : Nat) : Int) = A * B * m + A * B := by rw [Int.natCast_add, Int.mul_add]; simp
    rw [e, dotN]
    omega
structure GrOk (n : Int) (d : List Int) : Prop where
  n4 : n.toNat ≤ 4
  pos : 0 < n
  ents : ∀ i k : Nat, -3 ≤ atI n d i k ∧ atI n d i k ≤ 3
  same : ∀ w, Reach n d w → ∀ i : Nat, i < n.toNat → ∀ j, j < n.toNat → acN n d ((i : Int) :: nwF n d w) (unitL n.toNat j) = acN n d (nwF n d (rp n d i w)) (unitL n.toNat j)
  ent : ∀ w, Reach n d w → ∀ j, j < n.toNat → ∀ k, -10 ≤ (acN n d (nwF n d w) (unitL n.toNat j)).getD k 0 ∧ (acN n d (nwF n d w) (unitL n.toNat j)).getD k 0 ≤ 10
  down : ∀ w, Reach n d w → ∀ i : Nat, i < n.toNat → w.getD i 0 < 0 → ∀ j, j < n.toNat → (acN n d (nwF n d w) (unitL n.toNat j)).getD i 0 ≤ 0
section
variable {n : Int} {d : List Int} {R : List (List Int)}
theorem acN_reach {word : List Int} (h : rngW n word) : Reach n d (acN n d word (ones n 1)) := by
  induction word with
  | nil => exact Reach.one
  | cons i t ih =>
    have hi := h i List.mem_cons_self
    exact (ih fun y hy => h y (List.mem_cons_of_mem _ hy)).step (by omega)
theorem nw_rng (h : WlOk n d R) (hp : PhOk n d) {w : List Int} (hw : Reach n d w) : rngW n (nwF n d w) := (h.nw hp hw).2.2
theorem nw_one (h : WlOk n d R) (hp : PhOk n d) : nwF n d (ones n 1) = [] := by
  have h1 := (h.nw hp Reach.one).1
  rw [(((h.lev 0).2 _).1 (List.mem_singleton.2 rfl)).2] at h1
  exact List.eq_nil_of_length_eq_zero h1
theorem GrOk.norm (g : GrOk n d) (h : WlOk n d R) (hp : PhOk n d) : ∀ {word : List Int}, rngW n word → ∀ {x : List Int}, x.length = n.toNat → acN n d word x = acN n d (nwF n d (acN n d word (ones n 1))) x
  | [], _, x, _ => by
    show x = acN n d (nwF n d (ones n 1)) x
    rw [nw_one h hp]
    rfl
  | i :: t, hr, x, hx => by
    have hi := hr i List.mem_cons_self
    have ht : rngW n t := fun y hy => hr y (List.mem_cons_of_mem _ hy)
    have ih := g.norm h hp ht hx
    have hw := acN_reach (d := d) ht
    have e0 : acN n d (i :: t) x = rp n d i.toNat (acN n d t x) := rfl
    have ei : ((i.toNat : Nat) : Int) = i := by omega
    have hn := nw_rng h hp hw
    have hn2 := nw_rng h hp (hw.step (i := i.toNat) (by omega))
    have hc : rngW n (((i.toNat : Nat) : Int) :: nwF n d (acN n d t (ones n 1))) := fun y hy => by
      rcases List.mem_cons.1 hy with rfl | hy
      · omega
      · exact hn y hy
    rw [e0, ih]
    exact lin_eq (f := fun v => acN n d (((i.toNat : Nat) : Int) :: nwF n d (acN n d t (ones n 1))) v) (g := fun v => acN n d (nwF n d (rp n d i.toNat (acN n d t (ones n 1)))) v) (acN_lin hc) (acN_lin hn2) (fun j hj => g.same _ hw _ (by omega) j hj) hx (acN_len hx _) (acN_len hx _)
theorem GrOk.bound (g : GrOk n d) (h : WlOk n d R) (hp : PhOk n d) {word : List Int} (hr : rngW n word) {x : List Int} {B : Int} (hB : 0 ≤ B) (hx : x.length = n.toNat) (hb : ∀ k, k < n.toNat → -B ≤ x.getD k 0 ∧ x.getD k 0 ≤ B) {k : Nat} (hk : k < n.toNat) : -(40 * B) ≤ (acN n d word x).getD k 0 ∧ (acN n d word x).getD k 0 ≤ 40 * B := by
  have hw := acN_reach (d := d) hr
  rw [g.norm h hp hr hx, acN_lin (nw_rng h hp hw) x hx k hk]
  have h1 := dotN_abs (w := (x.getD · 0)) (c := fun j => (acN n d (nwF n d (acN n d word (ones n 1))) (unitL n.toNat j)).getD k 0) (A := B) (B := 10) hB (by omega) (m := n.toNat) fun j hj => ⟨hb j hj, g.ent _ hw j hj k⟩
  have h4 := g.n4
  have e : B * 10 * (n.toNat : Int) ≤ B * 10 * 4 := Int.mul_le_mul_of_nonneg_left (by omega) (by omega)
  omega
theorem rf_rp {i : Int} {x : List Int} {B : Int} (he : ∀ i k : Nat, -3 ≤ atI n d i k ∧ atI n d i k ≤ 3) (hB : 0 ≤ B ∧ B ≤ 1000000) (hl : x.length = n.toNat) (hb : ∀ k, k < n.toNat → -B ≤ x.getD k 0 ∧ x.getD k 0 ≤ B) (hi : 0 ≤ i ∧ i < n) : rfF n d i x = rp n d i.toNat x := by
  refine ext_getD (by rw [rfF_len, rp_len, hl]) fun k hk => ?_
  rw [rfF_len, hl] at hk
  rw [rfF_get (by omega), rp_get hk, show (k : Int) = ((k : Nat) : Int) from rfl]
  have h1 := hb k hk
  have h2 := hb i.toNat (by omega)
  have h3 := he k i.toNat
  have ei : ((i.toNat : Nat) : Int) = i := by omega
  rw [ei] at h3 ⊢
  have a1 := Int.mul_nonneg (show 0 ≤ B - x.getD i.toNat 0 by omega) (show 0 ≤ 3 - atI n d k i by omega)
  have a2 := Int.mul_nonneg (show 0 ≤ B + x.getD i.toNat 0 by omega) (show 0 ≤ 3 + atI n d k i by omega)
  have a3 := Int.mul_nonneg (show 0 ≤ B - x.getD i.toNat 0 by omega) (show 0 ≤ 3 + atI n d k i by omega)
  have a4 := Int.mul_nonneg (show 0 ≤ B + x.getD i.toNat 0 by omega) (show 0 ≤ 3 - atI n d k i by omega)
  simp only [Int.sub_mul, Int.mul_sub, Int.add_mul, Int.mul_add] at a1 a2 a3 a4
  rw [wrap_in (x := x.getD i.toNat 0 * atI n d k i) (by omega) (by omega), wrap_in (by omega) (by omega)]
theorem GrOk.act (g : GrOk n d) (h : WlOk n d R) (hp : PhOk n d) {x : List Int} {B : Int} (hB : 0 ≤ B ∧ B ≤ 20000) (hx : x.length = n.toNat) (hb : ∀ k, k < n.toNat → -B ≤ x.getD k 0 ∧ x.getD k 0 ≤ B) : ∀ {word : List Int}, rngW n word → actF n d word x = acN n d word x
  | [], _ => rfl
  | i :: t, hr => by
    have hi := hr i List.mem_cons_self
    have ht : rngW n t := fun y hy => hr y (List.mem_cons_of_mem _ hy)
    have ih := g.act h hp hB hx hb ht
    show rfF n d i (actF n d t x) = rp n d i.toNat (acN n d t x)
    rw [ih]
    exact rf_rp (B := 40 * B) g.ents (by omega) (acN_len hx _) (fun k hk => g.bound h hp ht hB.1 hx hb hk) hi
end
end Go.Proofs.YtgelkakjmbiibaaGreatDoor

namespace Go.Proofs.YtgelkakjmbiibaaGreatDoor
set_option linter.unusedVariables false
set_option linter.unusedSimpArgs false
def elA (n : Int) (d w u : List Int) : List Int := acN n d (nwF n d u) w
structure SmW (n : Int) (w : List Int) : Prop where
  len : w.length = n.toNat
  ent : ∀ k, k < n.toNat → -20 ≤ w.getD k 0 ∧ w.getD k 0 ≤ 20
section
variable {n : Int} {d : List Int} {R : List (List Int)} {w : List Int}
theorem elA_len (hl : w.length = n.toNat) (u : List Int) : (elA n d w u).length = n.toNat := acN_len hl _
theorem elA_one (h : WlOk n d R) (hp : PhOk n d) : elA n d w (ones n 1) = w := by
  rw [elA, nw_one h hp]
  rfl
theorem GrOk.elStep (g : GrOk n d) (h : WlOk n d R) (hp : PhOk n d) (hl : w.length = n.toNat) {u : List Int} (hu : Reach n d u) {i : Nat} (hi : i < n.toNat) : elA n d w (rp n d i u) = rp n d i (elA n d w u) := by
  have hn := nw_rng h hp hu
  have hc : rngW n ((i : Int) :: nwF n d u) := fun y hy => by
    rcases List.mem_cons.1 hy with rfl | hy
    · omega
    · exact hn y hy
  exact (lin_eq (acN_lin hc) (acN_lin (nw_rng h hp (hu.step hi))) (fun j hj => g.same _ hu _ hi j hj) hl (acN_len hl _) (acN_len hl _)).symm
theorem GrOk.elWord (g : GrOk n d) (h : WlOk n d R) (hp : PhOk n d) (hw : SmW n w) {word : List Int} (hr : rngW n word) : actF n d word w = elA n d w (acN n d word (ones n 1)) := by
  rw [g.act h hp (B := 20) (by omega) hw.len hw.ent hr, g.norm h hp hr hw.len]
  rfl
theorem GrOk.elEnt (g : GrOk n d) (h : WlOk n d R) (hp : PhOk n d) (hw : SmW n w) {u : List Int} (hu : Reach n d u) : ∀ k, k < n.toNat → -800 ≤ (elA n d w u).getD k 0 ∧ (elA n d w u).getD k 0 ≤ 800 := fun k hk => by
  have := g.bound h hp (nw_rng h hp hu) (B := 20) (by omega) hw.len hw.ent hk
  exact ⟨by unfold elA; omega, by unfold elA; omega⟩
theorem GrOk.elRf (g : GrOk n d) (h : WlOk n d R) (hp : PhOk n d) (hw : SmW n w) {u : List Int} (hu : Reach n d u) {i : Nat} (hi : i < n.toNat) : rfF n d (i : Int) (elA n d w u) = elA n d w (rp n d i u) := by
  rw [g.elStep h hp hw.len hu hi, rf_rp (B := 800) g.ents (by omega) (elA_len hw.len u) (g.elEnt h hp hw hu) (by omega)]
  rfl
def InOrb (n : Int) (d w x : List Int) : Prop := ∃ u, Reach n d u ∧ x = elA n d w u
theorem GrOk.orIn2 (g : GrOk n d) (h : WlOk n d R) (hp : PhOk n d) (hw : SmW n w) {x : List Int} (hx : InOrb n d w x) {L : List (List Int)} (hL : ∀ v ∈ L, InOrb n d w v) : ∀ m : Nat, m ≤ n.toNat → ∀ v ∈ (List.range m).foldl (oOne n d x) L, InOrb n d w v
  | 0, _ => hL
  | m + 1, hm => by
    have ih := g.orIn2 h hp hw hx hL m (by omega)
    rw [foldl_succ]
    intro v hv
    unfold oOne at hv
    split at hv
    · exact ih v hv
    · rcases List.mem_append.1 hv with hv | hv
      · exact ih v hv
      · obtain ⟨u, hu, rfl⟩ := hx
        rw [List.mem_singleton.1 hv, g.elRf h hp hw hu (by omega)]
        exact ⟨_, hu.step (by omega), rfl⟩
theorem GrOk.orC2 (g : GrOk n d) (h : WlOk n d R) (hp : PhOk n d) (hw : SmW n w) : ∀ {f : Nat} {L : List (List Int)} {k : Nat}, (∀ v ∈ L, InOrb n d w v) → ∀ v ∈ oC n d f L k, InOrb n d w v
  | 0, _, _, hL => hL
  | f + 1, L, k, hL => by
    rw [oC]
    split
    · rename_i hk
      exact g.orC2 h hp hw (g.orIn2 h hp hw (hL _ (by rw [List.getD, List.getElem?_eq_getElem hk.1]; exact List.getElem_mem hk.1)) hL n.toNat (Nat.le_refl _))
    · exact hL
theorem GrOk.orR2 (g : GrOk n d) (h : WlOk n d R) (hp : PhOk n d) (hw : SmW n w) : ∀ v ∈ oAll n d w, InOrb n d w v := g.orC2 h hp hw fun v hv => by
  rw [List.mem_singleton.1 hv]
  exact ⟨_, Reach.one, (elA_one h hp).symm⟩
theorem GrOk.orLe (g : GrOk n d) (h : WlOk n d R) (hp : PhOk n d) (hw : SmW n w) : (oAll n d w).length ≤ (oAll n d (ones n 1)).length := by
  have := nodup_sub (M := (oAll n d (ones n 1)).map (elA n d w)) (oAll_nod n d w) fun x hx => by
    obtain ⟨u, hu, rfl⟩ := g.orR2 h hp hw x hx
    exact List.mem_map_of_mem (h.orAll hu)
  rwa [List.length_map] at this
theorem GrOk.orMem (g : GrOk n d) (h : WlOk n d R) (hp : PhOk n d) (hw : SmW n w) {u : List Int} (hu : Reach n d u) : elA n d w u ∈ oAll n d w := by
  induction hu with
  | one =>
    rw [elA_one h hp]
    exact (oC_pre (L := [w])).mem (List.mem_singleton.2 rfl)
  | step hr hi ih =>
    rw [← g.elRf h hp hw hr hi]
    have h1 := g.orLe h hp hw
    have h2 := h.orLen
    exact oC_closed (L := [w]) (by show (oAll n d w).length ≤ 1200; omega) (by omega) (by simp) (fun j hj => absurd hj (Nat.not_lt_zero j)) _ ih _ hi
def fibN (n : Int) (d w x : List Int) : Nat := ((oAll n d (ones n 1)).filter fun u => decide (elA n d w u = x)).length
theorem GrOk.fibLe (g : GrOk n d) (h : WlOk n d R) (hp : PhOk n d) (hw : SmW n w) {x : List Int} {i : Nat} (hi : i < n.toNat) : fibN n d w x ≤ fibN n d w (rp n d i x) := by
  have hn : (((oAll n d (ones n 1)).filter fun u => decide (elA n d w u = x)).map (rp n d i)).Nodup := by
    refine nod_map2 ((oAll_nod _ _ _).sublist List.filter_sublist) fun a ha b hb e => ?_
    have la := ((h.orR a (List.mem_filter.1 ha).1).inv h.co).1
    have lb := ((h.orR b (List.mem_filter.1 hb).1).inv h.co).1
    rw [← rp_rp h.co hi la, e, rp_rp h.co hi lb]
  have := nodup_sub (M := (oAll n d (ones n 1)).filter fun u => decide (elA n d w u = rp n d i x)) hn fun y hy => by
    obtain ⟨u, hu, rfl⟩ := List.mem_map.1 hy
    obtain ⟨a, b⟩ := List.mem_filter.1 hu
    have hr := h.orR u a
    refine List.mem_filter.2 ⟨h.orAll (hr.step hi), ?_⟩
    rw [decide_eq_true_eq] at b ⊢
    rw [g.elStep h hp hw.len hr hi, b]
  rwa [List.length_map] at this
where
  nod_map2 {α β : Type} [DecidableEq β] {f : α → β} : ∀ {L : List α}, L.Nodup → (∀ x ∈ L, ∀ y ∈ L, f x = f y → x = y) → (L.map f).Nodup
    | [], _, _ => by simp
    | x :: t, hn, hi => by
      obtain ⟨h1, h2⟩ := List.nodup_cons.1 hn
      rw [List.map_cons, List.nodup_cons]
      refine ⟨fun hm => ?_, nod_map2 h2 fun a ha b hb => hi a (List.mem_cons_of_mem _ ha) b (List.mem_cons_of_mem _ hb)⟩
      obtain ⟨y, hy, e⟩ := List.mem_map.1 hm
      have := hi y (List.mem_cons_of_mem _ hy) x List.mem_cons_self e
      exact h1 (by rw [← this]; exact hy)
theorem GrOk.fib (g : GrOk n d) (h : WlOk n d R) (hp : PhOk n d) (hw : SmW n w) {u : List Int} (hu : Reach n d u) : fibN n d w (elA n d w u) = fibN n d w w := by
  induction hu with
  | one => rw [elA_one h hp]
  | @step v i hr hi ih =>
    rw [g.elStep h hp hw.len hr hi, ← ih]
    have h1 := g.fibLe h hp hw (x := elA n d w v) hi
    have h2 := g.fibLe h hp hw (x := rp n d i (elA n d w v)) hi
    rw [rp_rp h.co hi (elA_len hw.len v)] at h2
    omega
theorem sum_fib {α β : Type} [DecidableEq β] (f : α → β) {L : List β} (hL : L.Nodup) : ∀ {E : List α}, (∀ u ∈ E, f u ∈ L) → (L.map fun x => (E.filter fun u => decide (f u = x)).length).sum = E.length
  | [], _ => by
    have : ∀ M : List β, (M.map fun _ => 0).sum = 0 := fun M => by induction M <;> simp_all
    simpa using this L
  | u :: t, hE => by
    have ih := sum_fib f hL (E := t) fun v hv => hE v (List.mem_cons_of_mem _ hv)
    have hu := hE u List.mem_cons_self
    have key : ∀ {M : List β}, M.Nodup → (M.map fun x => ((u :: t).filter fun u => decide (f u = x)).length).sum = (M.map fun x => (t.filter fun u => decide (f u = x)).length).sum + if f u ∈ M then 1 else 0 := by
      intro M hM
      induction M with
      | nil => simp
      | cons y M ihM =>
        obtain ⟨h1, h2⟩ := List.nodup_cons.1 hM
        have h3 := ihM h2
        simp only [List.map_cons, List.sum_cons, h3]
        by_cases e : f u = y
        · subst e
          rw [if_neg h1, if_pos List.mem_cons_self, List.filter_cons, if_pos (by simp), List.length_cons]
          omega
        · rw [List.filter_cons, if_neg (by simpa using e)]
          by_cases e2 : f u ∈ M
          · rw [if_pos e2, if_pos (List.mem_cons_of_mem _ e2)]
            omega
          · rw [if_neg e2, if_neg (fun hh => (List.mem_cons.1 hh).elim e e2)]
            omega
    rw [key hL, ih, if_pos hu, List.length_cons]
theorem GrOk.split (g : GrOk n d) (h : WlOk n d R) (hp : PhOk n d) (hw : SmW n w) : (oAll n d (ones n 1)).length = fibN n d w w * (oAll n d w).length := by
  have h1 := sum_fib (elA n d w) (oAll_nod n d w) (E := oAll n d (ones n 1)) fun u hu => g.orMem h hp hw (h.orR u hu)
  rw [← h1]
  have h2 : ∀ M : List (List Int), (∀ x ∈ M, x ∈ oAll n d w) → (M.map fun x => ((oAll n d (ones n 1)).filter fun u => decide (elA n d w u = x)).length).sum = fibN n d w w * M.length := by
    intro M
    induction M with
    | nil => intro _; rfl
    | cons x M ih =>
      intro hM
      obtain ⟨u, hu, e⟩ := g.orR2 h hp hw x (hM x List.mem_cons_self)
      have h3 := ih fun y hy => hM y (List.mem_cons_of_mem _ hy)
      have h4 := g.fib h hp hw hu
      rw [← e, fibN] at h4
      rw [List.map_cons, List.sum_cons, h3, h4, List.length_cons, Nat.mul_add]
      omega
  exact h2 _ fun x hx => hx
theorem GrOk.oneDom (g : GrOk n d) (h : WlOk n d R) (hp : PhOk n d) (hl : w.length = n.toNat) (h0 : ∀ k, k < n.toNat → 0 ≤ w.getD k 0) : ∀ (m : Nat) {u : List Int}, Reach n d u → lnW n R u = m → (∀ k, k < n.toNat → 0 ≤ (elA n d w u).getD k 0) → elA n d w u = w
  | 0, u, hu, hm, _ => by rw [hu.zero h.co hm, elA_one h hp]
  | m + 1, u, hu, hm, hd => by
    obtain ⟨i, hi, hneg⟩ := hu.neg h.co (by omega)
    have h1 : (elA n d w u).getD i 0 ≤ 0 := by
      rw [elA, acN_lin (nw_rng h hp hu) w hl i hi, dotN_comm]
      have : ∀ q : Nat, q ≤ n.toNat → dotN (fun j => (acN n d (nwF n d u) (unitL n.toNat j)).getD i 0) (w.getD · 0) q ≤ 0 := fun q => by
        induction q with
        | zero => intro _; simp [dotN]
        | succ q ih =>
          intro hq
          have a := g.down u hu i hi hneg q (by omega)
          have b := h0 q (by omega)
          have c := Int.mul_nonneg (show 0 ≤ -(acN n d (nwF n d u) (unitL n.toNat q)).getD i 0 by omega) b
          rw [Int.neg_mul] at c
          have := ih (by omega)
          rw [dotN]
          omega
      exact this _ (Nat.le_refl _)
    have e0 : (elA n d w u).getD i 0 = 0 := by have := hd i hi; omega
    have e : elA n d w (rp n d i u) = elA n d w u := by
      rw [g.elStep h hp hl hu hi]
      refine ext_getD (by rw [rp_len, elA_len hl]) fun k hk => ?_
      rw [rp_len] at hk
      rw [rp_get hk, e0]
      omega
    rw [← e]
    exact g.oneDom h hp hl h0 m (hu.step hi) (by have := (h.co.ln hi u (by omega)).2 hneg; omega) (by rw [e]; exact hd)
end
end Go.Proofs.YtgelkakjmbiibaaGreatDoor
