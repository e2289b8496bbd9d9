/-
  Climbing to the dominant weight of an orbit, by a table of the group. No program is spoken of.
-/
import Derived.Test.YtgelkakjmbiibaaGreatDoorGro
import Derived.Test.YtgelkakjmbiibaaGreatDoorGrt
import Derived.Test.YtgelkakjmbiibaaGreatDoorZ23
namespace Go.Proofs.YtgelkakjmbiibaaGreatDoor
set_option linter.unusedVariables false
set_option linter.unusedSimpArgs false
section
variable {n : Int} {d : List Int} {R : List (List Int)} {w : List Int}
theorem GrOk.elWt (g : GrOk n d) (h : WlOk n d R) (hp : PhOk n d) (hw : SmW n w) {u : List Int} (hu : Reach n d u) : wtOk n (elA n d w u) = true := by
  have h0 := g.pos
  refine wtOk_of (by rw [elA_len hw.len]; omega) fun k hk => ?_
  rw [elA_len hw.len] at hk
  have := g.elEnt h hp hw hu k hk
  omega
theorem GrOk.dom (g : GrOk n d) (h : WlOk n d R) (hp : PhOk n d) (hw : SmW n w) : ∀ (f : Nat) {u ws a b : List Int}, Reach n d u → rngW n ws → elA n d w u = acN n d ws w → domS n d f (elA n d w u) ws = some (a, b) →
    InOrb n d w a ∧ rngW n b ∧ a = acN n d b w ∧ (∀ k, k < n.toNat → 0 ≤ a.getD k 0) ∧ b.length ≤ ws.length + lnW n R (elA n d w u)
  | 0, _, _, _, _, _, _, _, hd => by cases hd
  | f + 1, u, ws, a, b, hu, hr, he, hd => by
    have hwt := g.elWt h hp hw hu
    by_cases hf : fpos (elA n d w u) < 0
    · obtain ⟨e1, e2⟩ := domS_end hd hwt hf
      subst e1 e2
      exact ⟨⟨u, hu, rfl⟩, hr, he, fpos_none (elA_len hw.len u) hf, by omega⟩
    · obtain ⟨f', e1, h2⟩ := domS_step hd hwt hf
      obtain rfl : f = f' := by omega
      obtain ⟨a1, a2, a3⟩ := fpos_at hf
      rw [elA_len hw.len] at a2
      have ei : fpos (elA n d w u) = ((fpos (elA n d w u)).toNat : Int) := by omega
      have hln := (h.co.ln a2 (elA n d w u) (by omega)).2 a3
      generalize hi : (fpos (elA n d w u)).toNat = i at *
      rw [ei, g.elRf h hp hw hu a2] at h2
      have hr2 : rngW n ((i : Int) :: ws) := fun y hy => by
        rcases List.mem_cons.1 hy with rfl | hy
        · omega
        · exact hr y hy
      have := g.dom h hp hw f (hu.step a2) hr2 (by rw [g.elStep h hp hw.len hu a2, he]; rfl) h2
      refine ⟨this.1, this.2.1, this.2.2.1, this.2.2.2.1, ?_⟩
      have h5 := this.2.2.2.2
      rw [g.elStep h hp hw.len hu a2, List.length_cons] at h5
      omega
end
end Go.Proofs.YtgelkakjmbiibaaGreatDoor

namespace Go.Proofs.YtgelkakjmbiibaaGreatDoor
set_option linter.unusedVariables false
set_option linter.unusedSimpArgs false
section
variable {n : Int} {d : List Int} {R : List (List Int)}
theorem rngW_rev {t : List Int} (h : rngW n t) : rngW n t.reverse := fun y hy => h y (List.mem_reverse.1 hy)
theorem WlOk.back (h : WlOk n d R) : ∀ {t : List Int}, rngW n t → ∀ {z : List Int}, z.length = n.toNat → acN n d t.reverse (acN n d t z) = z
  | [], _, _, _ => rfl
  | i :: t, ht, z, hz => by
    have hi := ht i List.mem_cons_self
    rw [List.reverse_cons, acN_app]
    show acN n d t.reverse (rp n d i.toNat (rp n d i.toNat (acN n d t z))) = z
    rw [rp_rp h.co (by omega) (acN_len hz _), h.back (fun y hy => ht y (List.mem_cons_of_mem _ hy)) hz]
theorem WlOk.forth (h : WlOk n d R) {t : List Int} (ht : rngW n t) {z : List Int} (hz : z.length = n.toNat) : acN n d t (acN n d t.reverse z) = z := by
  have := h.back (rngW_rev ht) hz
  rwa [List.reverse_reverse] at this
theorem SmW.ones (hn : 0 < n) : SmW n (Proofs.YtgelkakjmbiibaaGreatDoor.ones n 1) := ⟨ones_len n 1, fun k hk => by rw [ones_get hk]; omega⟩
theorem WlOk.par (h : WlOk n d R) : ∀ {v : List Int}, rngW n v → ∃ q : Nat, v.length = lnW n R (acN n d v (Proofs.YtgelkakjmbiibaaGreatDoor.ones n 1)) + 2 * q
  | [], _ => ⟨0, by show 0 = lnW n R (Proofs.YtgelkakjmbiibaaGreatDoor.ones n 1) + 0; rw [(((h.lev 0).2 _).1 (List.mem_singleton.2 rfl)).2]⟩
  | i :: t, hv => by
    have hi := hv i List.mem_cons_self
    have ht : rngW n t := fun y hy => hv y (List.mem_cons_of_mem _ hy)
    obtain ⟨q, hq⟩ := h.par ht
    have hw := acN_reach (d := d) ht
    have hnz := hw.nz h.co (show i.toNat < n.toNat by omega)
    have hl := h.co.ln (show i.toNat < n.toNat by omega) (acN n d t (Proofs.YtgelkakjmbiibaaGreatDoor.ones n 1)) hnz
    have e : acN n d (i :: t) (Proofs.YtgelkakjmbiibaaGreatDoor.ones n 1) = rp n d i.toNat (acN n d t (Proofs.YtgelkakjmbiibaaGreatDoor.ones n 1)) := rfl
    rw [e, List.length_cons]
    by_cases hp : 0 < (acN n d t (Proofs.YtgelkakjmbiibaaGreatDoor.ones n 1)).getD i.toNat 0
    · exact ⟨q, by have := hl.1 hp; omega⟩
    · exact ⟨q + 1, by have := hl.2 (by omega); omega⟩
theorem GrOk.inv (g : GrOk n d) (h : WlOk n d R) (hp : PhOk n d) {v : List Int} (hv : rngW n v) : lnW n R (acN n d v.reverse (Proofs.YtgelkakjmbiibaaGreatDoor.ones n 1)) ≤ lnW n R (acN n d v (Proofs.YtgelkakjmbiibaaGreatDoor.ones n 1)) := by
  have hw := acN_reach (d := d) hv
  have hx := nw_rng h hp hw
  have l1 := ones_len n 1
  have lr : (acN n d v.reverse (Proofs.YtgelkakjmbiibaaGreatDoor.ones n 1)).length = n.toNat := acN_len l1 _
  have e1 : acN n d (nwF n d (acN n d v (Proofs.YtgelkakjmbiibaaGreatDoor.ones n 1))) (acN n d v.reverse (Proofs.YtgelkakjmbiibaaGreatDoor.ones n 1)) = Proofs.YtgelkakjmbiibaaGreatDoor.ones n 1 := by
    rw [← g.norm h hp hv lr, h.forth hv l1]
  have e2 := h.back hx lr
  rw [e1] at e2
  obtain ⟨q, hq⟩ := h.par (rngW_rev hx)
  rw [e2, List.length_reverse, (h.nw hp hw).1] at hq
  omega
theorem GrOk.invLen (g : GrOk n d) (h : WlOk n d R) (hp : PhOk n d) {v : List Int} (hv : rngW n v) : lnW n R (acN n d v.reverse (Proofs.YtgelkakjmbiibaaGreatDoor.ones n 1)) = lnW n R (acN n d v (Proofs.YtgelkakjmbiibaaGreatDoor.ones n 1)) := by
  have h1 := g.inv h hp hv
  have h2 := g.inv h hp (rngW_rev hv)
  rw [List.reverse_reverse] at h2
  omega
theorem GrOk.word (g : GrOk n d) (h : WlOk n d R) (hp : PhOk n d) {v : List Int} (hv : rngW n v) :
    actF n d v (Proofs.YtgelkakjmbiibaaGreatDoor.ones n 1) = acN n d v (Proofs.YtgelkakjmbiibaaGreatDoor.ones n 1) ∧ rngW n (nwF n d (actF n d v (Proofs.YtgelkakjmbiibaaGreatDoor.ones n 1))) ∧ actF n d (nwF n d (actF n d v (Proofs.YtgelkakjmbiibaaGreatDoor.ones n 1))) (Proofs.YtgelkakjmbiibaaGreatDoor.ones n 1) = actF n d v (Proofs.YtgelkakjmbiibaaGreatDoor.ones n 1) ∧
    (∃ q : Nat, v.length = (nwF n d (actF n d v (Proofs.YtgelkakjmbiibaaGreatDoor.ones n 1))).length + 2 * q) ∧ (nwF n d (actF n d v (Proofs.YtgelkakjmbiibaaGreatDoor.ones n 1))).length ≤ 24 ∧ (nwF n d (actF n d v.reverse (Proofs.YtgelkakjmbiibaaGreatDoor.ones n 1))).length = (nwF n d (actF n d v (Proofs.YtgelkakjmbiibaaGreatDoor.ones n 1))).length := by
  have s1 := SmW.ones g.pos
  have e := g.act h hp (B := 20) (by omega) s1.len s1.ent hv
  have er := g.act h hp (B := 20) (by omega) s1.len s1.ent (rngW_rev hv)
  have hw := acN_reach (d := d) hv
  have hwr := acN_reach (d := d) (rngW_rev hv)
  obtain ⟨n1, n2, n3⟩ := h.nw hp hw
  have n4 := (h.nw hp hwr).1
  rw [e, er]
  refine ⟨rfl, n3, n2, ?_, by rw [n1]; exact lnW_le h.co _, by rw [n1, n4, g.invLen h hp hv]⟩
  obtain ⟨q, hq⟩ := h.par hv
  exact ⟨q, by rw [n1]; exact hq⟩
theorem GrOk.undo (g : GrOk n d) (h : WlOk n d R) (hp : PhOk n d) {v : List Int} (hv : rngW n v) : nwF n d (actF n d (v ++ nwF n d (actF n d v.reverse (Proofs.YtgelkakjmbiibaaGreatDoor.ones n 1))) (Proofs.YtgelkakjmbiibaaGreatDoor.ones n 1)) = [] := by
  have s1 := SmW.ones g.pos
  have h1 := g.word h hp (rngW_rev hv)
  rw [actF_app, h1.2.2.1, h1.1, g.act h hp (B := 800) (by omega) (acN_len s1.len _) (fun k hk => by have := g.bound h hp (rngW_rev hv) (B := 20) (by omega) s1.len s1.ent hk; omega) hv, h.forth hv s1.len, nw_one h hp]
end
end Go.Proofs.YtgelkakjmbiibaaGreatDoor

namespace Go.Proofs.YtgelkakjmbiibaaGreatDoor
set_option linter.unusedVariables false
set_option linter.unusedSimpArgs false
section
variable {n : Int} {d : List Int} {R : List (List Int)} {w : List Int}
theorem wordB_of {n : Int} {d t : List Int} (hS : (tyS n d).isSome = true) (ht : rngW n t) (hl : t.length ≤ 60) : wordB n d t = true := by
  rw [wordB, hS, Bool.true_and, wdOk, decide_eq_true (by omega), Bool.true_and, Bool.not_eq_true']
  refine List.any_eq_false.2 fun y hy => ?_
  have := ht y hy
  simp [inB, this.1, show y ≤ n - 1 by omega]
structure WdLaw (n : Int) (d u v w : List Int) : Prop where
  wv : wordB n d v = true
  wu : wordB n d u = true
  nv : nwOf n d v = nwF n d (actF n d v (ones n 1))
  wx : wordB n d (nwOf n d v) = true
  same : seB n d v (nwOf n d v) = true
  again : nwOf n d (nwOf n d v) = nwOf n d v
  len : ∃ q : Nat, v.length = (nwOf n d v).length + 2 * q
  act : actOf n d v w = actOf n d (nwOf n d v) w
  app : actOf n d u (actOf n d v w) = actOf n d (u ++ v) w
  root : actOf n d v (wtOf n d w) = wtOf n d (arOf n d v w)
  back : (ivOf n d v).length = (nwOf n d v).length
  undo : (nwOf n d (v ++ ivOf n d v)).length = 0
  iff : seB n d u v = samB (nwOf n d u) (nwOf n d v)
end
end Go.Proofs.YtgelkakjmbiibaaGreatDoor

namespace Go.Proofs.YtgelkakjmbiibaaGreatDoor
set_option linter.unusedVariables false
set_option linter.unusedSimpArgs false
section
variable {n : Int} {d : List Int} {R : List (List Int)} {P : List (List Int × List Int)}
theorem WlOk.rfI (h : WlOk n d R) {u : List Int} (hu : Reach n d u) {i : Int} (hi : 0 ≤ i ∧ i < n) : rfF n d i u = rp n d i.toNat u := by
  have ei : ((i.toNat : Nat) : Int) = i := by omega
  have := h.rf hu (i := i.toNat) (by omega)
  rwa [ei] at this
theorem subM_iff (h : WlOk n d R) : ∀ {word : List Int}, rngW n word → ∀ {z : List Int}, subM n d word z ↔ ∃ p : List Int, p.Sublist word ∧ z = acN n d p (ones n 1)
  | [], _, z => by
    rw [subM]
    constructor
    · intro e
      exact ⟨[], List.Sublist.refl _, e⟩
    · rintro ⟨p, hp, e⟩
      rw [List.sublist_nil] at hp
      subst hp
      exact e
  | i :: t, hw, z => by
    have hi := hw i List.mem_cons_self
    have ht : rngW n t := fun y hy => hw y (List.mem_cons_of_mem _ hy)
    rw [subM, subM_iff h ht]
    constructor
    · rintro (⟨p, hp, e⟩ | ⟨w, hs, e⟩)
      · exact ⟨p, hp.cons i, e⟩
      · obtain ⟨p, hp, e2⟩ := (subM_iff h ht).1 hs
        refine ⟨i :: p, hp.cons_cons i, ?_⟩
        have hr : rngW n p := fun y hy => ht y (hp.mem hy)
        rw [e, e2, h.rfI (acN_reach hr) hi]
        rfl
    · rintro ⟨p, hp, e⟩
      rcases List.sublist_cons_iff.1 hp with h1 | ⟨q, e2, h1⟩
      · exact .inl ⟨p, h1, e⟩
      · subst e2
        have hr : rngW n q := fun y hy => ht y (h1.mem hy)
        refine .inr ⟨_, (subM_iff h ht).2 ⟨q, h1, rfl⟩, ?_⟩
        rw [e, h.rfI (acN_reach hr) hi]
        rfl
theorem subM_len (h : WlOk n d R) : ∀ {word : List Int}, rngW n word → ∀ {z : List Int}, subM n d word z → Reach n d z ∧ lnW n R z ≤ word.length ∧ (lnW n R z = word.length → z = acN n d word (ones n 1))
  | [], _, z, hz => by
    rw [subM] at hz
    subst hz
    refine ⟨Reach.one, ?_, fun _ => rfl⟩
    rw [(((h.lev 0).2 _).1 (List.mem_singleton.2 rfl)).2]
    exact Nat.zero_le _
  | i :: t, hw, z, hz => by
    have hi := hw i List.mem_cons_self
    have ht : rngW n t := fun y hy => hw y (List.mem_cons_of_mem _ hy)
    rw [subM] at hz
    rcases hz with hz | ⟨w, hs, e⟩
    · obtain ⟨h1, h2, _⟩ := subM_len h ht hz
      rw [List.length_cons]
      exact ⟨h1, by omega, fun e => by omega⟩
    · obtain ⟨h1, h2, h3⟩ := subM_len h ht hs
      rw [h.rfI h1 hi] at e
      subst e
      have hin : i.toNat < n.toNat := by omega
      have hl := h.co.ln hin w (h1.nz h.co hin)
      have hle : lnW n R (rp n d i.toNat w) ≤ lnW n R w + 1 := by
        by_cases hp : 0 < w.getD i.toNat 0
        · have := hl.1 hp; omega
        · have := hl.2 (by have := h1.nz h.co hin; omega); omega
      rw [List.length_cons]
      refine ⟨h1.step hin, by omega, fun e => ?_⟩
      rw [h3 (by omega)]
      rfl
theorem WlOk.subR (h : WlOk n d R) (hP : RpOk n d P) : ∀ {word : List Int}, rngW n word → lnW n R (acN n d word (ones n 1)) = word.length → ∀ z, subM n d word z ↔ Reach n d z ∧ Bel n P z (acN n d word (ones n 1))
  | [], _, _ => fun z => by
    rw [subM]
    show z = ones n 1 ↔ Reach n d z ∧ Bel n P z (ones n 1)
    constructor
    · intro e
      rw [e]
      exact ⟨Reach.one, .refl _⟩
    · rintro ⟨_, hb⟩
      exact hb.dom hP fun k hk => by rw [ones_get hk]; omega
  | i :: t, hw, hlen => fun z => by
    have hi := hw i List.mem_cons_self
    have ht : rngW n t := fun y hy => hw y (List.mem_cons_of_mem _ hy)
    have hin : i.toNat < n.toNat := by omega
    have hr := acN_reach (d := d) ht
    have lw := (hr.inv h.co).1
    have hnz := hr.nz h.co hin
    have hl := h.co.ln hin (acN n d t (ones n 1)) hnz
    have ev : acN n d (i :: t) (ones n 1) = rp n d i.toNat (acN n d t (ones n 1)) := rfl
    rw [ev, List.length_cons] at hlen
    obtain ⟨q, hq⟩ := h.par ht
    have hp : 0 < (acN n d t (ones n 1)).getD i.toNat 0 := by
      apply Classical.byContradiction
      intro hn
      have := hl.2 (by omega)
      omega
    have ih := h.subR hP ht (by have := hl.1 hp; omega)
    have a3 : (rp n d i.toNat (acN n d t (ones n 1))).getD i.toNat 0 < 0 := by rw [rp_get hin, h.co.two _ hin]; omega
    have lv : (rp n d i.toNat (acN n d t (ones n 1))).length = n.toNat := rp_len _ _ _ _
    have bk : rp n d i.toNat (rp n d i.toNat (acN n d t (ones n 1))) = acN n d t (ones n 1) := rp_rp h.co hin lw
    rw [subM, ih, ev]
    constructor
    · rintro (⟨hz, hb⟩ | ⟨w, hs, e⟩)
      · have lz := (hz.inv h.co).1
        refine ⟨hz, (Bel.lift h.co hP hin lz lv a3).2 ?_⟩
        rw [bk]
        exact (mnR_le h.co hP lz hin).1.trans hb
      · obtain ⟨hw1, hw2⟩ := (ih w).1 hs
        have lw1 := (hw1.inv h.co).1
        rw [h.rfI hw1 hi] at e
        subst e
        have := (mnR_le h.co hP (rp_len n d i.toNat w) hin).2
        rw [rp_rp h.co hin lw1] at this
        refine ⟨hw1.step hin, (Bel.lift h.co hP hin (rp_len n d i.toNat w) lv a3).2 ?_⟩
        rw [bk]
        exact this.trans hw2
    · rintro ⟨hz, hb⟩
      have lz := (hz.inv h.co).1
      have hb2 := (Bel.lift h.co hP hin lz lv a3).1 hb
      rw [bk] at hb2
      have hm := (h.mn hz hin).1
      rcases mnR_rp h.co lz hin with e | e
      · rw [e] at hb2
        exact .inl ⟨hz, hb2⟩
      · exact .inr ⟨mnR n d i.toNat z, (ih _).2 ⟨hm, hb2⟩, by rw [h.rfI hm hi, e]⟩
theorem WlOk.belSub (h : WlOk n d R) (hP : RpOk n d P) (hp : PhOk n d) {z v : List Int} (hv : Reach n d v) : (Reach n d z ∧ Bel n P z v) ↔ subM n d (nwF n d v) z := by
  obtain ⟨x, hx⟩ := climb_ok hp (hv.bd h hp)
  exact (h.sub hP _ hv hx z).symm
theorem WlOk.belLen (h : WlOk n d R) (hP : RpOk n d P) (hp : PhOk n d) {z v : List Int} (hz : Reach n d z) (hv : Reach n d v) (hb : Bel n P z v) : lnW n R z ≤ lnW n R v ∧ (lnW n R z = lnW n R v → z = v) := by
  have h1 := (h.belSub hP hp hv).1 ⟨hz, hb⟩
  have hr := nw_rng h hp hv
  obtain ⟨_, h2, h3⟩ := subM_len h hr h1
  have h4 := h.nw hp hv
  rw [h4.1] at h2 h3
  exact ⟨h2, fun e => (h3 e).trans ((acN_act h hr).symm.trans h4.2.1)⟩
where
  acN_act (h : WlOk n d R) : ∀ {word : List Int}, rngW n word → actF n d word (ones n 1) = acN n d word (ones n 1)
    | [], _ => rfl
    | i :: t, hw => by
      have hi := hw i List.mem_cons_self
      have ht : rngW n t := fun y hy => hw y (List.mem_cons_of_mem _ hy)
      show rfF n d i (actF n d t (ones n 1)) = rp n d i.toNat (acN n d t (ones n 1))
      rw [acN_act h ht, h.rfI (acN_reach ht) hi]
theorem GrOk.invEq (g : GrOk n d) (h : WlOk n d R) (hp : PhOk n d) {p u : List Int} (hr : rngW n p) (hu : rngW n u) (e : acN n d p (ones n 1) = acN n d u (ones n 1)) : acN n d p.reverse (ones n 1) = acN n d u.reverse (ones n 1) := by
  have l1 := ones_len n 1
  have lr : (acN n d u.reverse (ones n 1)).length = n.toNat := acN_len l1 _
  have e1 : acN n d p (acN n d u.reverse (ones n 1)) = ones n 1 := by
    rw [g.norm h hp hr lr, e, ← g.norm h hp hu lr, h.forth hu l1]
  have e2 := h.back hr lr
  rw [e1] at e2
  exact e2
theorem GrOk.belInv (g : GrOk n d) (h : WlOk n d R) (hP : RpOk n d P) (hp : PhOk n d) {u v : List Int} (hu : rngW n u) (hv : rngW n v) (hb : Bel n P (acN n d u (ones n 1)) (acN n d v (ones n 1))) : Bel n P (acN n d u.reverse (ones n 1)) (acN n d v.reverse (ones n 1)) := by
  have ru := acN_reach (d := d) hu
  have rv := acN_reach (d := d) hv
  have hx := nw_rng h hp rv
  obtain ⟨p, hps, e⟩ := (subM_iff h hx).1 ((h.belSub hP hp rv).1 ⟨ru, hb⟩)
  have hr : rngW n p := fun y hy => hx y (hps.mem hy)
  have ex : acN n d (nwF n d (acN n d v (ones n 1))) (ones n 1) = acN n d v (ones n 1) := (g.norm h hp hv (ones_len n 1)).symm
  rw [← g.invEq h hp hr hu e.symm, ← g.invEq h hp hx hv ex]
  refine ((h.subR hP (rngW_rev hx) ?_ _).1 ((subM_iff h (rngW_rev hx)).2 ⟨p.reverse, List.reverse_sublist.2 hps, rfl⟩)).2
  rw [List.length_reverse, g.invLen h hp hx, ex, (h.nw hp rv).1]
end
end Go.Proofs.YtgelkakjmbiibaaGreatDoor
