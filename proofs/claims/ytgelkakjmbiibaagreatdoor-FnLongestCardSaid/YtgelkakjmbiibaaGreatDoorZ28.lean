/-
  Orbits of weights by a table of the group: who is in one, how many, and that one alone is dominant. No program is spoken of.
-/
import Derived.Test.YtgelkakjmbiibaaGreatDoorZ23
import Derived.Test.YtgelkakjmbiibaaGreatDoorZ27
namespace Go.Proofs.YtgelkakjmbiibaaGreatDoor
set_option linter.unusedVariables false
set_option linter.unusedSimpArgs false
def elA (n : Int) (d w u : List Int) : List Int := acN n d (nwF n d u) w
structure SmW (n : Int) (w : List Int) : Prop where
  len : w.length = n.toNat
  ent : ∀ k, k < n.toNat → -20 ≤ w.getD k 0 ∧ w.getD k 0 ≤ 20
section
variable {n : Int} {d : List Int} {R : List (List Int)} {w : List Int}
theorem elA_len (hl : w.length = n.toNat) (u : List Int) : (elA n d w u).length = n.toNat := acN_len hl _
theorem elA_one (h : WlOk n d R) (hp : PhOk n d) : elA n d w (ones n 1) = w := by
  rw [elA, nw_one h hp]
  rfl
theorem GrOk.elStep (g : GrOk n d) (h : WlOk n d R) (hp : PhOk n d) (hl : w.length = n.toNat) {u : List Int} (hu : Reach n d u) {i : Nat} (hi : i < n.toNat) : elA n d w (rp n d i u) = rp n d i (elA n d w u) := by
  have hn := nw_rng h hp hu
  have hc : rngW n ((i : Int) :: nwF n d u) := fun y hy => by
    rcases List.mem_cons.1 hy with rfl | hy
    · omega
    · exact hn y hy
  exact (lin_eq (acN_lin hc) (acN_lin (nw_rng h hp (hu.step hi))) (fun j hj => g.same _ hu _ hi j hj) hl (acN_len hl _) (acN_len hl _)).symm
theorem GrOk.elEnt (g : GrOk n d) (h : WlOk n d R) (hp : PhOk n d) (hw : SmW n w) {u : List Int} (hu : Reach n d u) : ∀ k, k < n.toNat → -800 ≤ (elA n d w u).getD k 0 ∧ (elA n d w u).getD k 0 ≤ 800 := fun k hk => by
  have := g.bound h hp (nw_rng h hp hu) (B := 20) (by omega) hw.len hw.ent hk
  exact ⟨by unfold elA; omega, by unfold elA; omega⟩
theorem GrOk.elRf (g : GrOk n d) (h : WlOk n d R) (hp : PhOk n d) (hw : SmW n w) {u : List Int} (hu : Reach n d u) {i : Nat} (hi : i < n.toNat) : rfF n d (i : Int) (elA n d w u) = elA n d w (rp n d i u) := by
  rw [g.elStep h hp hw.len hu hi, rf_rp (B := 800) g.ents (by omega) (elA_len hw.len u) (g.elEnt h hp hw hu) (by omega)]
  rfl
def InOrb (n : Int) (d w x : List Int) : Prop := ∃ u, Reach n d u ∧ x = elA n d w u
theorem GrOk.orIn2 (g : GrOk n d) (h : WlOk n d R) (hp : PhOk n d) (hw : SmW n w) {x : List Int} (hx : InOrb n d w x) {L : List (List Int)} (hL : ∀ v ∈ L, InOrb n d w v) : ∀ m : Nat, m ≤ n.toNat → ∀ v ∈ (List.range m).foldl (oOne n d x) L, InOrb n d w v
  | 0, _ => hL
  | m + 1, hm => by
    have ih := g.orIn2 h hp hw hx hL m (by omega)
    rw [foldl_succ]
    intro v hv
    unfold oOne at hv
    split at hv
    · exact ih v hv
    · rcases List.mem_append.1 hv with hv | hv
      · exact ih v hv
      · obtain ⟨u, hu, rfl⟩ := hx
        rw [List.mem_singleton.1 hv, g.elRf h hp hw hu (by omega)]
        exact ⟨_, hu.step (by omega), rfl⟩
theorem GrOk.orC2 (g : GrOk n d) (h : WlOk n d R) (hp : PhOk n d) (hw : SmW n w) : ∀ {f : Nat} {L : List (List Int)} {k : Nat}, (∀ v ∈ L, InOrb n d w v) → ∀ v ∈ oC n d f L k, InOrb n d w v
  | 0, _, _, hL => hL
  | f + 1, L, k, hL => by
    rw [oC]
    split
    · rename_i hk
      exact g.orC2 h hp hw (g.orIn2 h hp hw (hL _ (by rw [List.getD, List.getElem?_eq_getElem hk.1]; exact List.getElem_mem hk.1)) hL n.toNat (Nat.le_refl _))
    · exact hL
theorem GrOk.orR2 (g : GrOk n d) (h : WlOk n d R) (hp : PhOk n d) (hw : SmW n w) : ∀ v ∈ oAll n d w, InOrb n d w v := g.orC2 h hp hw fun v hv => by
  rw [List.mem_singleton.1 hv]
  exact ⟨_, Reach.one, (elA_one h hp).symm⟩
theorem GrOk.orLe (g : GrOk n d) (h : WlOk n d R) (hp : PhOk n d) (hw : SmW n w) : (oAll n d w).length ≤ (oAll n d (ones n 1)).length := by
  have := nodup_sub (M := (oAll n d (ones n 1)).map (elA n d w)) (oAll_nod n d w) fun x hx => by
    obtain ⟨u, hu, rfl⟩ := g.orR2 h hp hw x hx
    exact List.mem_map_of_mem (h.orAll hu)
  rwa [List.length_map] at this
theorem GrOk.orMem (g : GrOk n d) (h : WlOk n d R) (hp : PhOk n d) (hw : SmW n w) {u : List Int} (hu : Reach n d u) : elA n d w u ∈ oAll n d w := by
  induction hu with
  | one =>
    rw [elA_one h hp]
    exact (oC_pre (L := [w])).mem (List.mem_singleton.2 rfl)
  | step hr hi ih =>
    rw [← g.elRf h hp hw hr hi]
    have h1 := g.orLe h hp hw
    have h2 := h.orLen
    exact oC_closed (L := [w]) (by show (oAll n d w).length ≤ 1200; omega) (by omega) (by simp) (fun j hj => absurd hj (Nat.not_lt_zero j)) _ ih _ hi
def fibN (n : Int) (d w x : List Int) : Nat := ((oAll n d (ones n 1)).filter fun u => decide (elA n d w u = x)).length
theorem GrOk.fibLe (g : GrOk n d) (h : WlOk n d R) (hp : PhOk n d) (hw : SmW n w) {x : List Int} {i : Nat} (hi : i < n.toNat) : fibN n d w x ≤ fibN n d w (rp n d i x) := by
  have hn : (((oAll n d (ones n 1)).filter fun u => decide (elA n d w u = x)).map (rp n d i)).Nodup := by
    refine nod_map2 ((oAll_nod _ _ _).sublist List.filter_sublist) fun a ha b hb e => ?_
    have la := ((h.orR a (List.mem_filter.1 ha).1).inv h.co).1
    have lb := ((h.orR b (List.mem_filter.1 hb).1).inv h.co).1
    rw [← rp_rp h.co hi la, e, rp_rp h.co hi lb]
  have := nodup_sub (M := (oAll n d (ones n 1)).filter fun u => decide (elA n d w u = rp n d i x)) hn fun y hy => by
    obtain ⟨u, hu, rfl⟩ := List.mem_map.1 hy
    obtain ⟨a, b⟩ := List.mem_filter.1 hu
    have hr := h.orR u a
    refine List.mem_filter.2 ⟨h.orAll (hr.step hi), ?_⟩
    rw [decide_eq_true_eq] at b ⊢
    rw [g.elStep h hp hw.len hr hi, b]
  rwa [List.length_map] at this
where
  nod_map2 {α β : Type} [DecidableEq β] {f : α → β} : ∀ {L : List α}, L.Nodup → (∀ x ∈ L, ∀ y ∈ L, f x = f y → x = y) → (L.map f).Nodup
    | [], _, _ => by simp
    | x :: t, hn, hi => by
      obtain ⟨h1, h2⟩ := List.nodup_cons.1 hn
      rw [List.map_cons, List.nodup_cons]
      refine ⟨fun hm => ?_, nod_map2 h2 fun a ha b hb => hi a (List.mem_cons_of_mem _ ha) b (List.mem_cons_of_mem _ hb)⟩
      obtain ⟨y, hy, e⟩ := List.mem_map.1 hm
      have := hi y (List.mem_cons_of_mem _ hy) x List.mem_cons_self e
      exact h1 (by rw [← this]; exact hy)
theorem GrOk.fib (g : GrOk n d) (h : WlOk n d R) (hp : PhOk n d) (hw : SmW n w) {u : List Int} (hu : Reach n d u) : fibN n d w (elA n d w u) = fibN n d w w := by
  induction hu with
  | one => rw [elA_one h hp]
  | @step v i hr hi ih =>
    rw [g.elStep h hp hw.len hr hi, ← ih]
    have h1 := g.fibLe h hp hw (x := elA n d w v) hi
    have h2 := g.fibLe h hp hw (x := rp n d i (elA n d w v)) hi
    rw [rp_rp h.co hi (elA_len hw.len v)] at h2
    omega
theorem sum_fib {α β : Type} [DecidableEq β] (f : α → β) {L : List β} (hL : L.Nodup) : ∀ {E : List α}, (∀ u ∈ E, f u ∈ L) → (L.map fun x => (E.filter fun u => decide (f u = x)).length).sum = E.length
  | [], _ => by
    have : ∀ M : List β, (M.map fun _ => 0).sum = 0 := fun M => by induction M <;> simp_all
    simpa using this L
  | u :: t, hE => by
    have ih := sum_fib f hL (E := t) fun v hv => hE v (List.mem_cons_of_mem _ hv)
    have hu := hE u List.mem_cons_self
    have key : ∀ {M : List β}, M.Nodup → (M.map fun x => ((u :: t).filter fun u => decide (f u = x)).length).sum = (M.map fun x => (t.filter fun u => decide (f u = x)).length).sum + if f u ∈ M then 1 else 0 := by
      intro M hM
      induction M with
      | nil => simp
      | cons y M ihM =>
        obtain ⟨h1, h2⟩ := List.nodup_cons.1 hM
        have h3 := ihM h2
        simp only [List.map_cons, List.sum_cons, h3]
        by_cases e : f u = y
        · subst e
          rw [if_neg h1, if_pos List.mem_cons_self, List.filter_cons, if_pos (by simp), List.length_cons]
          omega
        · rw [List.filter_cons, if_neg (by simpa using e)]
          by_cases e2 : f u ∈ M
          · rw [if_pos e2, if_pos (List.mem_cons_of_mem _ e2)]
            omega
          · rw [if_neg e2, if_neg (fun hh => (List.mem_cons.1 hh).elim e e2)]
            omega
    rw [key hL, ih, if_pos hu, List.length_cons]
theorem GrOk.split (g : GrOk n d) (h : WlOk n d R) (hp : PhOk n d) (hw : SmW n w) : (oAll n d (ones n 1)).length = fibN n d w w * (oAll n d w).length := by
  have h1 := sum_fib (elA n d w) (oAll_nod n d w) (E := oAll n d (ones n 1)) fun u hu => g.orMem h hp hw (h.orR u hu)
  rw [← h1]
  have h2 : ∀ M : List (List Int), (∀ x ∈ M, x ∈ oAll n d w) → (M.map fun x => ((oAll n d (ones n 1)).filter fun u => decide (elA n d w u = x)).length).sum = fibN n d w w * M.length := by
    intro M
    induction M with
    | nil => intro _; rfl
    | cons x M ih =>
      intro hM
      obtain ⟨u, hu, e⟩ := g.orR2 h hp hw x (hM x List.mem_cons_self)
      have h3 := ih fun y hy => hM y (List.mem_cons_of_mem _ hy)
      have h4 := g.fib h hp hw hu
      rw [← e, fibN] at h4
      rw [List.map_cons, List.sum_cons, h3, h4, List.length_cons, Nat.mul_add]
      omega
  exact h2 _ fun x hx => hx
end
end Go.Proofs.YtgelkakjmbiibaaGreatDoor

namespace Go.Proofs.YtgelkakjmbiibaaGreatDoor
set_option linter.unusedVariables false
set_option linter.unusedSimpArgs false
section
variable {n : Int} {d : List Int} {R : List (List Int)} {w : List Int}
theorem GrOk.elWt (g : GrOk n d) (h : WlOk n d R) (hp : PhOk n d) (hw : SmW n w) {u : List Int} (hu : Reach n d u) : wtOk n (elA n d w u) = true := by
  have h0 := g.pos
  refine wtOk_of (by rw [elA_len hw.len]; omega) fun k hk => ?_
  rw [elA_len hw.len] at hk
  have := g.elEnt h hp hw hu k hk
  omega
theorem GrOk.dom (g : GrOk n d) (h : WlOk n d R) (hp : PhOk n d) (hw : SmW n w) : ∀ (f : Nat) {u ws a b : List Int}, Reach n d u → rngW n ws → elA n d w u = acN n d ws w → domS n d f (elA n d w u) ws = some (a, b) →
    InOrb n d w a ∧ rngW n b ∧ a = acN n d b w ∧ (∀ k, k < n.toNat → 0 ≤ a.getD k 0) ∧ b.length ≤ ws.length + lnW n R (elA n d w u)
  | 0, _, _, _, _, _, _, _, hd => by cases hd
  | f + 1, u, ws, a, b, hu, hr, he, hd => by
    have hwt := g.elWt h hp hw hu
    by_cases hf : fpos (elA n d w u) < 0
    · obtain ⟨e1, e2⟩ := domS_end hd hwt hf
      subst e1 e2
      exact ⟨⟨u, hu, rfl⟩, hr, he, fpos_none (elA_len hw.len u) hf, by omega⟩
    · obtain ⟨f', e1, h2⟩ := domS_step hd hwt hf
      obtain rfl : f = f' := by omega
      obtain ⟨a1, a2, a3⟩ := fpos_at hf
      rw [elA_len hw.len] at a2
      have ei : fpos (elA n d w u) = ((fpos (elA n d w u)).toNat : Int) := by omega
      have hln := (h.co.ln a2 (elA n d w u) (by omega)).2 a3
      generalize hi : (fpos (elA n d w u)).toNat = i at *
      rw [ei, g.elRf h hp hw hu a2] at h2
      have hr2 : rngW n ((i : Int) :: ws) := fun y hy => by
        rcases List.mem_cons.1 hy with rfl | hy
        · omega
        · exact hr y hy
      have := g.dom h hp hw f (hu.step a2) hr2 (by rw [g.elStep h hp hw.len hu a2, he]; rfl) h2
      refine ⟨this.1, this.2.1, this.2.2.1, this.2.2.2.1, ?_⟩
      have h5 := this.2.2.2.2
      rw [g.elStep h hp hw.len hu a2, List.length_cons] at h5
      omega
end
end Go.Proofs.YtgelkakjmbiibaaGreatDoor

namespace Go.Proofs.YtgelkakjmbiibaaGreatDoor
set_option linter.unusedVariables false
set_option linter.unusedSimpArgs false
section
variable {n : Int} {d : List Int} {R : List (List Int)}
theorem rngW_rev {t : List Int} (h : rngW n t) : rngW n t.reverse := fun y hy => h y (List.mem_reverse.1 hy)
theorem WlOk.back (h : WlOk n d R) : ∀ {t : List Int}, rngW n t → ∀ {z : List Int}, z.length = n.toNat → acN n d t.reverse (acN n d t z) = z
  | [], _, _, _ => rfl
  | i :: t, ht, z, hz => by
    have hi := ht i List.mem_cons_self
    rw [List.reverse_cons, acN_app]
    show acN n d t.reverse (rp n d i.toNat (rp n d i.toNat (acN n d t z))) = z
    rw [rp_rp h.co (by omega) (acN_len hz _), h.back (fun y hy => ht y (List.mem_cons_of_mem _ hy)) hz]
theorem WlOk.forth (h : WlOk n d R) {t : List Int} (ht : rngW n t) {z : List Int} (hz : z.length = n.toNat) : acN n d t (acN n d t.reverse z) = z := by
  have := h.back (rngW_rev ht) hz
  rwa [List.reverse_reverse] at this
theorem SmW.ones (hn : 0 < n) : SmW n (Proofs.YtgelkakjmbiibaaGreatDoor.ones n 1) := ⟨ones_len n 1, fun k hk => by rw [ones_get hk]; omega⟩
theorem WlOk.par (h : WlOk n d R) : ∀ {v : List Int}, rngW n v → ∃ q : Nat, v.length = lnW n R (acN n d v (Proofs.YtgelkakjmbiibaaGreatDoor.ones n 1)) + 2 * q
  | [], _ => ⟨0, by show 0 = lnW n R (Proofs.YtgelkakjmbiibaaGreatDoor.ones n 1) + 0; rw [(((h.lev 0).2 _).1 (List.mem_singleton.2 rfl)).2]⟩
  | i :: t, hv => by
    have hi := hv i List.mem_cons_self
    have ht : rngW n t := fun y hy => hv y (List.mem_cons_of_mem _ hy)
    obtain ⟨q, hq⟩ := h.par ht
    have hw := acN_reach (d := d) ht
    have hnz := hw.nz h.co (show i.toNat < n.toNat by omega)
    have hl := h.co.ln (show i.toNat < n.toNat by omega) (acN n d t (Proofs.YtgelkakjmbiibaaGreatDoor.ones n 1)) hnz
    have e : acN n d (i :: t) (Proofs.YtgelkakjmbiibaaGreatDoor.ones n 1) = rp n d i.toNat (acN n d t (Proofs.YtgelkakjmbiibaaGreatDoor.ones n 1)) := rfl
    rw [e, List.length_cons]
    by_cases hp : 0 < (acN n d t (Proofs.YtgelkakjmbiibaaGreatDoor.ones n 1)).getD i.toNat 0
    · exact ⟨q, by have := hl.1 hp; omega⟩
    · exact ⟨q + 1, by have := hl.2 (by omega); omega⟩
theorem GrOk.inv (g : GrOk n d) (h : WlOk n d R) (hp : PhOk n d) {v : List Int} (hv : rngW n v) : lnW n R (acN n d v.reverse (Proofs.YtgelkakjmbiibaaGreatDoor.ones n 1)) ≤ lnW n R (acN n d v (Proofs.YtgelkakjmbiibaaGreatDoor.ones n 1)) := by
  have hw := acN_reach (d := d) hv
  have hx := nw_rng h hp hw
  have l1 := ones_len n 1
  have lr : (acN n d v.reverse (Proofs.YtgelkakjmbiibaaGreatDoor.ones n 1)).length = n.toNat := acN_len l1 _
  have e1 : acN n d (nwF n d (acN n d v (Proofs.YtgelkakjmbiibaaGreatDoor.ones n 1))) (acN n d v.reverse (Proofs.YtgelkakjmbiibaaGreatDoor.ones n 1)) = Proofs.YtgelkakjmbiibaaGreatDoor.ones n 1 := by
    rw [← g.norm h hp hv lr, h.forth hv l1]
  have e2 := h.back hx lr
  rw [e1] at e2
  obtain ⟨q, hq⟩ := h.par (rngW_rev hx)
  rw [e2, List.length_reverse, (h.nw hp hw).1] at hq
  omega
theorem GrOk.invLen (g : GrOk n d) (h : WlOk n d R) (hp : PhOk n d) {v : List Int} (hv : rngW n v) : lnW n R (acN n d v.reverse (Proofs.YtgelkakjmbiibaaGreatDoor.ones n 1)) = lnW n R (acN n d v (Proofs.YtgelkakjmbiibaaGreatDoor.ones n 1)) := by
  have h1 := g.inv h hp hv
  have h2 := g.inv h hp (rngW_rev hv)
  rw [List.reverse_reverse] at h2
  omega
theorem GrOk.word (g : GrOk n d) (h : WlOk n d R) (hp : PhOk n d) {v : List Int} (hv : rngW n v) :
    actF n d v (Proofs.YtgelkakjmbiibaaGreatDoor.ones n 1) = acN n d v (Proofs.YtgelkakjmbiibaaGreatDoor.ones n 1) ∧ rngW n (nwF n d (actF n d v (Proofs.YtgelkakjmbiibaaGreatDoor.ones n 1))) ∧ actF n d (nwF n d (actF n d v (Proofs.YtgelkakjmbiibaaGreatDoor.ones n 1))) (Proofs.YtgelkakjmbiibaaGreatDoor.ones n 1) = actF n d v (Proofs.YtgelkakjmbiibaaGreatDoor.ones n 1) ∧
    (∃ q : Nat, v.length = (nwF n d (actF n d v (Proofs.YtgelkakjmbiibaaGreatDoor.ones n 1))).length + 2 * q) ∧ (nwF n d (actF n d v (Proofs.YtgelkakjmbiibaaGreatDoor.ones n 1))).length ≤ 24 ∧ (nwF n d (actF n d v.reverse (Proofs.YtgelkakjmbiibaaGreatDoor.ones n 1))).length = (nwF n d (actF n d v (Proofs.YtgelkakjmbiibaaGreatDoor.ones n 1))).length := by
  have s1 := SmW.ones g.pos
  have e := g.act h hp (B := 20) (by omega) s1.len s1.ent hv
  have er := g.act h hp (B := 20) (by omega) s1.len s1.ent (rngW_rev hv)
  have hw := acN_reach (d := d) hv
  have hwr := acN_reach (d := d) (rngW_rev hv)
  obtain ⟨n1, n2, n3⟩ := h.nw hp hw
  have n4 := (h.nw hp hwr).1
  rw [e, er]
  refine ⟨rfl, n3, n2, ?_, by rw [n1]; exact lnW_le h.co _, by rw [n1, n4, g.invLen h hp hv]⟩
  obtain ⟨q, hq⟩ := h.par hv
  exact ⟨q, by rw [n1]; exact hq⟩
theorem GrOk.undo (g : GrOk n d) (h : WlOk n d R) (hp : PhOk n d) {v : List Int} (hv : rngW n v) : nwF n d (actF n d (v ++ nwF n d (actF n d v.reverse (Proofs.YtgelkakjmbiibaaGreatDoor.ones n 1))) (Proofs.YtgelkakjmbiibaaGreatDoor.ones n 1)) = [] := by
  have s1 := SmW.ones g.pos
  have h1 := g.word h hp (rngW_rev hv)
  rw [actF_app, h1.2.2.1, h1.1, g.act h hp (B := 800) (by omega) (acN_len s1.len _) (fun k hk => by have := g.bound h hp (rngW_rev hv) (B := 20) (by omega) s1.len s1.ent hk; omega) hv, h.forth hv s1.len, nw_one h hp]
end
end Go.Proofs.YtgelkakjmbiibaaGreatDoor

namespace Go.Proofs.YtgelkakjmbiibaaGreatDoor
set_option linter.unusedVariables false
set_option linter.unusedSimpArgs false
section
variable {n : Int} {d : List Int} {R : List (List Int)} {P : List (List Int × List Int)}
theorem WlOk.rfI (h : WlOk n d R) {u : List Int} (hu : Reach n d u) {i : Int} (hi : 0 ≤ i ∧ i < n) : rfF n d i u = rp n d i.toNat u := by
  have ei : ((i.toNat : Nat) : Int) = i := by omega
  have := h.rf hu (i := i.toNat) (by omega)
  rwa [ei] at this
theorem subM_len (h : WlOk n d R) : ∀ {word : List Int}, rngW n word → ∀ {z : List Int}, subM n d word z → Reach n d z ∧ lnW n R z ≤ word.length ∧ (lnW n R z = word.length → z = acN n d word (ones n 1))
  | [], _, z, hz => by
    rw [subM] at hz
    subst hz
    refine ⟨Reach.one, ?_, fun _ => rfl⟩
    rw [(((h.lev 0).2 _).1 (List.mem_singleton.2 rfl)).2]
    exact Nat.zero_le _
  | i :: t, hw, z, hz => by
    have hi := hw i List.mem_cons_self
    have ht : rngW n t := fun y hy => hw y (List.mem_cons_of_mem _ hy)
    rw [subM] at hz
    rcases hz with hz | ⟨w, hs, e⟩
    · obtain ⟨h1, h2, _⟩ := subM_len h ht hz
      rw [List.length_cons]
      exact ⟨h1, by omega, fun e => by omega⟩
    · obtain ⟨h1, h2, h3⟩ := subM_len h ht hs
      rw [h.rfI h1 hi] at e
      subst e
      have hin : i.toNat < n.toNat := by omega
      have hl := h.co.ln hin w (h1.nz h.co hin)
      have hle : lnW n R (rp n d i.toNat w) ≤ lnW n R w + 1 := by
        by_cases hp : 0 < w.getD i.toNat 0
        · have := hl.1 hp; omega
        · have := hl.2 (by have := h1.nz h.co hin; omega); omega
      rw [List.length_cons]
      refine ⟨h1.step hin, by omega, fun e => ?_⟩
      rw [h3 (by omega)]
      rfl
theorem WlOk.belSub (h : WlOk n d R) (hP : RpOk n d P) (hp : PhOk n d) {z v : List Int} (hv : Reach n d v) : (Reach n d z ∧ Bel n P z v) ↔ subM n d (nwF n d v) z := by
  obtain ⟨x, hx⟩ := climb_ok hp (hv.bd h hp)
  exact (h.sub hP _ hv hx z).symm
theorem WlOk.belLen (h : WlOk n d R) (hP : RpOk n d P) (hp : PhOk n d) {z v : List Int} (hz : Reach n d z) (hv : Reach n d v) (hb : Bel n P z v) : lnW n R z ≤ lnW n R v ∧ (lnW n R z = lnW n R v → z = v) := by
  have h1 := (h.belSub hP hp hv).1 ⟨hz, hb⟩
  have hr := nw_rng h hp hv
  obtain ⟨_, h2, h3⟩ := subM_len h hr h1
  have h4 := h.nw hp hv
  rw [h4.1] at h2 h3
  exact ⟨h2, fun e => (h3 e).trans ((acN_act h hr).symm.trans h4.2.1)⟩
where
  acN_act (h : WlOk n d R) : ∀ {word : List Int}, rngW n word → actF n d word (ones n 1) = acN n d word (ones n 1)
    | [], _ => rfl
    | i :: t, hw => by
      have hi := hw i List.mem_cons_self
      have ht : rngW n t := fun y hy => hw y (List.mem_cons_of_mem _ hy)
      show rfF n d i (actF n d t (ones n 1)) = rp n d i.toNat (acN n d t (ones n 1))
      rw [acN_act h ht, h.rfI (acN_reach ht) hi]
end
end Go.Proofs.YtgelkakjmbiibaaGreatDoor
