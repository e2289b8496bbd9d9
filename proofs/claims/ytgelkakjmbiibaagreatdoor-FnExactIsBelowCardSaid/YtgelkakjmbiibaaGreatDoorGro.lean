/-
  Orbits of weights by a table of the group: who is in one, how many, and that one alone is dominant. No program is spoken of.
-/
import Derived.Test.YtgelkakjmbiibaaGreatDoorGrp
namespace Go.Proofs.YtgelkakjmbiibaaGreatDoor
set_option linter.unusedVariables false
set_option linter.unusedSimpArgs false
def elA (n : Int) (d w u : List Int) : List Int := acN n d (nwF n d u) w
structure SmW (n : Int) (w : List Int) : Prop where
  len : w.length = n.toNat
  ent : ∀ k, k < n.toNat → -20 ≤ w.getD k 0 ∧ w.getD k 0 ≤ 20
section
variable {n : Int} {d : List Int} {R : List (List Int)} {w : List Int}
theorem elA_len (hl : w.length = n.toNat) (u : List Int) : (elA n d w u).length = n.toNat := acN_len hl _
theorem elA_one (h : WlOk n d R) (hp : PhOk n d) : elA n d w (ones n 1) = w := by
  rw [elA, nw_one h hp]
  rfl
theorem GrOk.elStep (g : GrOk n d) (h : WlOk n d R) (hp : PhOk n d) (hl : w.length = n.toNat) {u : List Int} (hu : Reach n d u) {i : Nat} (hi : i < n.toNat) : elA n d w (rp n d i u) = rp n d i (elA n d w u) := by
  have hn := nw_rng h hp hu
  have hc : rngW n ((i : Int) :: nwF n d u) := fun y hy => by
    rcases List.mem_cons.1 hy with rfl | hy
    · omega
    · exact hn y hy
  exact (lin_eq (acN_lin hc) (acN_lin (nw_rng h hp (hu.step hi))) (fun j hj => g.same _ hu _ hi j hj) hl (acN_len hl _) (acN_len hl _)).symm
theorem GrOk.elEnt (g : GrOk n d) (h : WlOk n d R) (hp : PhOk n d) (hw : SmW n w) {u : List Int} (hu : Reach n d u) : ∀ k, k < n.toNat → -800 ≤ (elA n d w u).getD k 0 ∧ (elA n d w u).getD k 0 ≤ 800 := fun k hk => by
  have := g.bound h hp (nw_rng h hp hu) (B := 20) (by omega) hw.len hw.ent hk
  exact ⟨by unfold elA; omega, by unfold elA; omega⟩
theorem GrOk.elRf (g : GrOk n d) (h : WlOk n d R) (hp : PhOk n d) (hw : SmW n w) {u : List Int} (hu : Reach n d u) {i : Nat} (hi : i < n.toNat) : rfF n d (i : Int) (elA n d w u) = elA n d w (rp n d i u) := by
  rw [g.elStep h hp hw.len hu hi, rf_rp (B := 800) g.ents (by omega) (elA_len hw.len u) (g.elEnt h hp hw hu) (by omega)]
  rfl
def InOrb (n : Int) (d w x : List Int) : Prop := ∃ u, Reach n d u ∧ x = elA n d w u
theorem GrOk.orIn2 (g : GrOk n d) (h : WlOk n d R) (hp : PhOk n d) (hw : SmW n w) {x : List Int} (hx : InOrb n d w x) {L : List (List Int)} (hL : ∀ v ∈ L, InOrb n d w v) : ∀ m : Nat, m ≤ n.toNat → ∀ v ∈ (List.range m).foldl (oOne n d x) L, InOrb n d w v
  | 0, _ => hL
  | m + 1, hm => by
    have ih := g.orIn2 h hp hw hx hL m (by omega)
    rw [foldl_succ]
    intro v hv
    unfold oOne at hv
    split at hv
    · exact ih v hv
    · rcases List.mem_append.1 hv with hv | hv
      · exact ih v hv
      · obtain ⟨u, hu, rfl⟩ := hx
        rw [List.mem_singleton.1 hv, g.elRf h hp hw hu (by omega)]
        exact ⟨_, hu.step (by omega), rfl⟩
theorem GrOk.orC2 (g : GrOk n d) (h : WlOk n d R) (hp : PhOk n d) (hw : SmW n w) : ∀ {f : Nat} {L : List (List Int)} {k : Nat}, (∀ v ∈ L, InOrb n d w v) → ∀ v ∈ oC n d f L k, InOrb n d w v
  | 0, _, _, hL => hL
  | f + 1, L, k, hL => by
    rw [oC]
    split
    · rename_i hk
      exact g.orC2 h hp hw (g.orIn2 h hp hw (hL _ (by rw [List.getD, List.getElem?_eq_getElem hk.1]; exact List.getElem_mem hk.1)) hL n.toNat (Nat.le_refl _))
    · exact hL
theorem GrOk.orR2 (g : GrOk n d) (h : WlOk n d R) (hp : PhOk n d) (hw : SmW n w) : ∀ v ∈ oAll n d w, InOrb n d w v := g.orC2 h hp hw fun v hv => by
  rw [List.mem_singleton.1 hv]
  exact ⟨_, Reach.one, (elA_one h hp).symm⟩
theorem GrOk.orLe (g : GrOk n d) (h : WlOk n d R) (hp : PhOk n d) (hw : SmW n w) : (oAll n d w).length ≤ (oAll n d (ones n 1)).length := by
  have := nodup_sub (M := (oAll n d (ones n 1)).map (elA n d w)) (oAll_nod n d w) fun x hx => by
    obtain ⟨u, hu, rfl⟩ := g.orR2 h hp hw x hx
    exact List.mem_map_of_mem (h.orAll hu)
  rwa [List.length_map] at this
theorem GrOk.orMem (g : GrOk n d) (h : WlOk n d R) (hp : PhOk n d) (hw : SmW n w) {u : List Int} (hu : Reach n d u) : elA n d w u ∈ oAll n d w := by
  induction hu with
  | one =>
    rw [elA_one h hp]
    exact (oC_pre (L := [w])).mem (List.mem_singleton.2 rfl)
  | step hr hi ih =>
    rw [← g.elRf h hp hw hr hi]
    have h1 := g.orLe h hp hw
    have h2 := h.orLen
    exact oC_closed (L := [w]) (by show (oAll n d w).length ≤ 1200; omega) (by omega) (by simp) (fun j hj => absurd hj (Nat.not_lt_zero j)) _ ih _ hi
def fibN (n : Int) (d w x : List Int) : Nat := ((oAll n d (ones n 1)).filter fun u => decide (elA n d w u = x)).length
theorem GrOk.fibLe (g : GrOk n d) (h : WlOk n d R) (hp : PhOk n d) (hw : SmW n w) {x : List Int} {i : Nat} (hi : i < n.toNat) : fibN n d w x ≤ fibN n d w (rp n d i x) := by
  have hn : (((oAll n d (ones n 1)).filter fun u => decide (elA n d w u = x)).map (rp n d i)).Nodup := by
    refine nod_map2 ((oAll_nod _ _ _).sublist List.filter_sublist) fun a ha b hb e => ?_
    have la := ((h.orR a (List.mem_filter.1 ha).1).inv h.co).1
    have lb := ((h.orR b (List.mem_filter.1 hb).1).inv h.co).1
    rw [← rp_rp h.co hi la, e, rp_rp h.co hi lb]
  have := nodup_sub (M := (oAll n d (ones n 1)).filter fun u => decide (elA n d w u = rp n d i x)) hn fun y hy => by
    obtain ⟨u, hu, rfl⟩ := List.mem_map.1 hy
    obtain ⟨a, b⟩ := List.mem_filter.1 hu
    have hr := h.orR u a
    refine List.mem_filter.2 ⟨h.orAll (hr.step hi), ?_⟩
    rw [decide_eq_true_eq] at b ⊢
    rw [g.elStep h hp hw.len hr hi, b]
  rwa [List.length_map] at this
where
  nod_map2 {α β : Type} [DecidableEq β] {f : α → β} : ∀ {L : List α}, L.Nodup → (∀ x ∈ L, ∀ y ∈ L, f x = f y → x = y) → (L.map f).Nodup
    | [], _, _ => by simp
    | x :: t, hn, hi => by
      obtain ⟨h1, h2⟩ := List.nodup_cons.1 hn
      rw [List.map_cons, List.nodup_cons]
      refine ⟨fun hm => ?_, nod_map2 h2 fun a ha b hb => hi a (List.mem_cons_of_mem _ ha) b (List.mem_cons_of_mem _ hb)⟩
      obtain ⟨y, hy, e⟩ := List.mem_map.1 hm
      have := hi y (List.mem_cons_of_mem _ hy) x List.mem_cons_self e
      exact h1 (by rw [← this]; exact hy)
theorem GrOk.fib (g : GrOk n d) (h : WlOk n d R) (hp : PhOk n d) (hw : SmW n w) {u : List Int} (hu : Reach n d u) : fibN n d w (elA n d w u) = fibN n d w w := by
  induction hu with
  | one => rw [elA_one h hp]
  | @step v i hr hi ih =>
    rw [g.elStep h hp hw.len hr hi, ← ih]
    have h1 := g.fibLe h hp hw (x := elA n d w v) hi
    have h2 := g.fibLe h hp hw (x := rp n d i (elA n d w v)) hi
    rw [rp_rp h.co hi (elA_len hw.len v)] at h2
    omega
theorem sum_fib {α β : Type} [DecidableEq β] (f : α → β) {L : List β} (hL : L.Nodup) : ∀ {E : List α}, (∀ u ∈ E, f u ∈ L) → (L.map fun x => (E.filter fun u => decide (f u = x)).length).sum = E.length
  | [], _ => by
    have : ∀ M : List β, (M.map fun _ => 0).sum = 0 := fun M => by induction M <;> simp_all
    simpa using this L
  | u :: t, hE => by
    have ih := sum_fib f hL (E := t) fun v hv => hE v (List.mem_cons_of_mem _ hv)
    have hu := hE u List.mem_cons_self
    have key : ∀ {M : List β}, M.Nodup → (M.map fun x => ((u :: t).filter fun u => decide (f u = x)).length).sum = (M.map fun x => (t.filter fun u => decide (f u = x)).length).sum + if f u ∈ M then 1 else 0 := by
      intro M hM
      induction M with
      | nil => simp
      | cons y M ihM =>
        obtain ⟨h1, h2⟩ := List.nodup_cons.1 hM
        have h3 := ihM h2
        simp only [List.map_cons, List.sum_cons, h3]
        by_cases e : f u = y
        · subst e
          rw [if_neg h1, if_pos List.mem_cons_self, List.filter_cons, if_pos (by simp), List.length_cons]
          omega
        · rw [List.filter_cons, if_neg (by simpa using e)]
          by_cases e2 : f u ∈ M
          · rw [if_pos e2, if_pos (List.mem_cons_of_mem _ e2)]
            omega
          · rw [if_neg e2, if_neg (fun hh => (List.mem_cons.1 hh).elim e e2)]
            omega
    rw [key hL, ih, if_pos hu, List.length_cons]
theorem GrOk.split (g : GrOk n d) (h : WlOk n d R) (hp : PhOk n d) (hw : SmW n w) : (oAll n d (ones n 1)).length = fibN n d w w * (oAll n d w).length := by
  have h1 := sum_fib (elA n d w) (oAll_nod n d w) (E := oAll n d (ones n 1)) fun u hu => g.orMem h hp hw (h.orR u hu)
  rw [← h1]
  have h2 : ∀ M : List (List Int), (∀ x ∈ M, x ∈ oAll n d w) → (M.map fun x => ((oAll n d (ones n 1)).filter fun u => decide (elA n d w u = x)).length).sum = fibN n d w w * M.length := by
    intro M
    induction M with
    | nil => intro _; rfl
    | cons x M ih =>
      intro hM
      obtain ⟨u, hu, e⟩ := g.orR2 h hp hw x (hM x List.mem_cons_self)
      have h3 := ih fun y hy => hM y (List.mem_cons_of_mem _ hy)
      have h4 := g.fib h hp hw hu
      rw [← e, fibN] at h4
      rw [List.map_cons, List.sum_cons, h3, h4, List.length_cons, Nat.mul_add]
      omega
  exact h2 _ fun x hx => hx
end
end Go.Proofs.YtgelkakjmbiibaaGreatDoor
