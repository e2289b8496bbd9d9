/-
  The order of Bruhat and words: parts of a word, lengths, inverses. No program is spoken of.
-/
import Derived.Test.YtgelkakjmbiibaaGreatDoorGrw
import Derived.Test.YtgelkakjmbiibaaGreatDoorZ17
namespace Go.Proofs.YtgelkakjmbiibaaGreatDoor
set_option linter.unusedVariables false
set_option linter.unusedSimpArgs false
section
variable {n : Int} {d : List Int} {R : List (List Int)} {P : List (List Int × List Int)}
theorem WlOk.rfI (h : WlOk n d R) {u : List Int} (hu : Reach n d u) {i : Int} (hi : 0 ≤ i ∧ i < n) : rfF n d i u = rp n d i.toNat u := by
  have ei : ((i.toNat : Nat) : Int) = i := by omega
  have := h.rf hu (i := i.toNat) (by omega)
  rwa [ei] at this
theorem subM_len (h : WlOk n d R) : ∀ {word : List Int}, rngW n word → ∀ {z : List Int}, subM n d word z → Reach n d z ∧ lnW n R z ≤ word.length ∧ (lnW n R z = word.length → z = acN n d word (ones n 1))
  | [], _, z, hz => by
    rw [subM] at hz
    subst hz
    refine ⟨Reach.one, ?_, fun _ => rfl⟩
    rw [(((h.lev 0).2 _).1 (List.mem_singleton.2 rfl)).2]
    exact Nat.zero_le _
  | i :: t, hw, z, hz => by
    have hi := hw i List.mem_cons_self
    have ht : rngW n t := fun y hy => hw y (List.mem_cons_of_mem _ hy)
    rw [subM] at hz
    rcases hz with hz | ⟨w, hs, e⟩
    · obtain ⟨h1, h2, _⟩ := subM_len h ht hz
      rw [List.length_cons]
      exact ⟨h1, by omega, fun e => by omega⟩
    · obtain ⟨h1, h2, h3⟩ := subM_len h ht hs
      rw [h.rfI h1 hi] at e
      subst e
      have hin : i.toNat < n.toNat := by omega
      have hl := h.co.ln hin w (h1.nz h.co hin)
      have hle : lnW n R (rp n d i.toNat w) ≤ lnW n R w + 1 := by
        by_cases hp : 0 < w.getD i.toNat 0
        · have := hl.1 hp; omega
        · have := hl.2 (by have := h1.nz h.co hin; omega); omega
      rw [List.length_cons]
      refine ⟨h1.step hin, by omega, fun e => ?_⟩
      rw [h3 (by omega)]
      rfl
theorem WlOk.subR (h : WlOk n d R) (hP : RpOk n d P) : ∀ {word : List Int}, rngW n word → lnW n R (acN n d word (ones n 1)) = word.length → ∀ z, subM n d word z ↔ Reach n d z ∧ Bel n P z (acN n d word (ones n 1))
  | [], _, _ => fun z => by
    rw [subM]
    show z = ones n 1 ↔ Reach n d z ∧ Bel n P z (ones n 1)
    constructor
    · intro e
      rw [e]
      exact ⟨Reach.one, .refl _⟩
    · rintro ⟨_, hb⟩
      exact hb.dom hP fun k hk => by rw [ones_get hk]; omega
  | i :: t, hw, hlen => fun z => by
    have hi := hw i List.mem_cons_self
    have ht : rngW n t := fun y hy => hw y (List.mem_cons_of_mem _ hy)
    have hin : i.toNat < n.toNat := by omega
    have hr := acN_reach (d := d) ht
    have lw := (hr.inv h.co).1
    have hnz := hr.nz h.co hin
    have hl := h.co.ln hin (acN n d t (ones n 1)) hnz
    have ev : acN n d (i :: t) (ones n 1) = rp n d i.toNat (acN n d t (ones n 1)) := rfl
    rw [ev, List.length_cons] at hlen
    obtain ⟨q, hq⟩ := h.par ht
    have hp : 0 < (acN n d t (ones n 1)).getD i.toNat 0 := by
      apply Classical.byContradiction
      intro hn
      have := hl.2 (by omega)
      omega
    have ih := h.subR hP ht (by have := hl.1 hp; omega)
    have a3 : (rp n d i.toNat (acN n d t (ones n 1))).getD i.toNat 0 < 0 := by rw [rp_get hin, h.co.two _ hin]; omega
    have lv : (rp n d i.toNat (acN n d t (ones n 1))).length = n.toNat := rp_len _ _ _ _
    have bk : rp n d i.toNat (rp n d i.toNat (acN n d t (ones n 1))) = acN n d t (ones n 1) := rp_rp h.co hin lw
    rw [subM, ih, ev]
    constructor
    · rintro (⟨hz, hb⟩ | ⟨w, hs, e⟩)
      · have lz := (hz.inv h.co).1
        refine ⟨hz, (Bel.lift h.co hP hin lz lv a3).2 ?_⟩
        rw [bk]
        exact (mnR_le h.co hP lz hin).1.trans hb
      · obtain ⟨hw1, hw2⟩ := (ih w).1 hs
        have lw1 := (hw1.inv h.co).1
        rw [h.rfI hw1 hi] at e
        subst e
        have := (mnR_le h.co hP (rp_len n d i.toNat w) hin).2
        rw [rp_rp h.co hin lw1] at this
        refine ⟨hw1.step hin, (Bel.lift h.co hP hin (rp_len n d i.toNat w) lv a3).2 ?_⟩
        rw [bk]
        exact this.trans hw2
    · rintro ⟨hz, hb⟩
      have lz := (hz.inv h.co).1
      have hb2 := (Bel.lift h.co hP hin lz lv a3).1 hb
      rw [bk] at hb2
      have hm := (h.mn hz hin).1
      rcases mnR_rp h.co lz hin with e | e
      · rw [e] at hb2
        exact .inl ⟨hz, hb2⟩
      · exact .inr ⟨mnR n d i.toNat z, (ih _).2 ⟨hm, hb2⟩, by rw [h.rfI hm hi, e]⟩
theorem WlOk.belSub (h : WlOk n d R) (hP : RpOk n d P) (hp : PhOk n d) {z v : List Int} (hv : Reach n d v) : (Reach n d z ∧ Bel n P z v) ↔ subM n d (nwF n d v) z := by
  obtain ⟨x, hx⟩ := climb_ok hp (hv.bd h hp)
  exact (h.sub hP _ hv hx z).symm
theorem WlOk.belLen (h : WlOk n d R) (hP : RpOk n d P) (hp : PhOk n d) {z v : List Int} (hz : Reach n d z) (hv : Reach n d v) (hb : Bel n P z v) : lnW n R z ≤ lnW n R v ∧ (lnW n R z = lnW n R v → z = v) := by
  have h1 := (h.belSub hP hp hv).1 ⟨hz, hb⟩
  have hr := nw_rng h hp hv
  obtain ⟨_, h2, h3⟩ := subM_len h hr h1
  have h4 := h.nw hp hv
  rw [h4.1] at h2 h3
  exact ⟨h2, fun e => (h3 e).trans ((acN_act h hr).symm.trans h4.2.1)⟩
where
  acN_act (h : WlOk n d R) : ∀ {word : List Int}, rngW n word → actF n d word (ones n 1) = acN n d word (ones n 1)
    | [], _ => rfl
    | i :: t, hw => by
      have hi := hw i List.mem_cons_self
      have ht : rngW n t := fun y hy => hw y (List.mem_cons_of_mem _ hy)
      show rfF n d i (actF n d t (ones n 1)) = rp n d i.toNat (acN n d t (ones n 1))
      rw [acN_act h ht, h.rfI (acN_reach ht) hi]
end
end Go.Proofs.YtgelkakjmbiibaaGreatDoor
