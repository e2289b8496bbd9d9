/-
  Climbing to the dominant weight of an orbit, by a table of the group. No program is spoken of.
-/
import Derived.Test.YtgelkakjmbiibaaGreatDoorZ25
import Derived.Test.YtgelkakjmbiibaaGreatDoorGrt
namespace Go.Proofs.YtgelkakjmbiibaaGreatDoor
set_option linter.unusedVariables false
set_option linter.unusedSimpArgs false
section
variable {n : Int} {d : List Int} {R : List (List Int)} {w : List Int}
theorem GrOk.elWt (g : GrOk n d) (h : WlOk n d R) (hp : PhOk n d) (hw : SmW n w) {u : List Int} (hu : Reach n d u) : wtOk n (elA n d w u) = true := by
  have h0 := g.pos
  refine wtOk_of (by rw [elA_len hw.len]; omega) fun k hk => ?_
  rw [elA_len hw.len] at hk
  have := g.elEnt h hp hw hu k hk
  omega
theorem GrOk.dom (g : GrOk n d) (h : WlOk n d R) (hp : PhOk n d) (hw : SmW n w) : ∀ (f : Nat) {u ws a b : List Int}, Reach n d u → rngW n ws → elA n d w u = acN n d ws w → domS n d f (elA n d w u) ws = some (a, b) →
    InOrb n d w a ∧ rngW n b ∧ a = acN n d b w ∧ (∀ k, k < n.toNat → 0 ≤ a.getD k 0) ∧ b.length ≤ ws.length + lnW n R (elA n d w u)
  | 0, _, _, _, _, _, _, _, hd => by cases hd
  | f + 1, u, ws, a, b, hu, hr, he, hd => by
    have hwt := g.elWt h hp hw hu
    by_cases hf : fpos (elA n d w u) < 0
    · obtain ⟨e1, e2⟩ := domS_end hd hwt hf
      subst e1 e2
      exact ⟨⟨u, hu, rfl⟩, hr, he, fpos_none (elA_len hw.len u) hf, by omega⟩
    · obtain ⟨f', e1, h2⟩ := domS_step hd hwt hf
      obtain rfl : f = f' := by omega
      obtain ⟨a1, a2, a3⟩ := fpos_at hf
      rw [elA_len hw.len] at a2
      have ei : fpos (elA n d w u) = ((fpos (elA n d w u)).toNat : Int) := by omega
      have hln := (h.co.ln a2 (elA n d w u) (by omega)).2 a3
      generalize hi : (fpos (elA n d w u)).toNat = i at *
      rw [ei, g.elRf h hp hw hu a2] at h2
      have hr2 : rngW n ((i : Int) :: ws) := fun y hy => by
        rcases List.mem_cons.1 hy with rfl | hy
        · omega
        · exact hr y hy
      have := g.dom h hp hw f (hu.step a2) hr2 (by rw [g.elStep h hp hw.len hu a2, he]; rfl) h2
      refine ⟨this.1, this.2.1, this.2.2.1, this.2.2.2.1, ?_⟩
      have h5 := this.2.2.2.2
      rw [g.elStep h hp hw.len hu a2, List.length_cons] at h5
      omega
theorem GrOk.domF (g : GrOk n d) (h : WlOk n d R) (hp : PhOk n d) (hw : SmW n w) : InOrb n d w (dmF n d w).1 ∧ rngW n (dmF n d w).2 ∧ (dmF n d w).1 = actF n d (dmF n d w).2 w ∧ (∀ k, k < n.toNat → 0 ≤ (dmF n d w).1.getD k 0) ∧ (dmF n d w).2.length ≤ 24 := by
  have h0 := g.pos
  have e1 := elA_one (w := w) h hp
  have hwt := g.elWt h hp hw (Reach.one (n := n) (d := d))
  rw [e1] at hwt
  have hd := domS_ok hp (by omega) hwt
  rw [← e1] at hd
  have := g.dom h hp hw 800002 (u := ones n 1) (ws := []) Reach.one (fun y hy => by simp at hy) e1 (a := (dmF n d w).1) (b := (dmF n d w).2) (by rw [hd, e1])
  have h2 := lnW_le h.co (elA n d w (ones n 1))
  refine ⟨this.1, this.2.1, ?_, this.2.2.2.1, by have := this.2.2.2.2; rw [List.length_nil] at this; omega⟩
  rw [this.2.2.1, g.act h hp (B := 20) (by omega) hw.len hw.ent this.2.1]
theorem GrOk.domOne (g : GrOk n d) (h : WlOk n d R) (hp : PhOk n d) (hw : SmW n w) {x y : List Int} (hx : InOrb n d w x) (hy : InOrb n d w y) (dx : ∀ k, k < n.toNat → 0 ≤ x.getD k 0) (dy : ∀ k, k < n.toNat → 0 ≤ y.getD k 0) : y = x := by
  obtain ⟨u, hu, rfl⟩ := hx
  obtain ⟨v, hv, rfl⟩ := hy
  -- y is what a word makes of x
  have hru := nw_rng h hp hu
  have hrv := nw_rng h hp hv
  have hword : rngW n (nwF n d v ++ (nwF n d u).reverse) := fun z hz => by
    rcases List.mem_append.1 hz with hz | hz
    · exact hrv z hz
    · exact hru z (List.mem_reverse.1 hz)
  have back : ∀ {t : List Int}, rngW n t → ∀ {z : List Int}, z.length = n.toNat → acN n d t.reverse (acN n d t z) = z := by
    intro t
    induction t with
    | nil => intro _ z _; rfl
    | cons i t ih =>
      intro ht z hz
      have hi := ht i List.mem_cons_self
      rw [List.reverse_cons, acN_app]
      show acN n d t.reverse (rp n d i.toNat (rp n d i.toNat (acN n d t z))) = z
      rw [rp_rp h.co (by omega) (acN_len hz _), ih (fun y hy => ht y (List.mem_cons_of_mem _ hy)) hz]
  have e : acN n d (nwF n d v ++ (nwF n d u).reverse) (elA n d w u) = elA n d w v := by
    rw [acN_app, elA, back hru hw.len]
    rfl
  have sx := elA_len (d := d) hw.len u
  have e2 := g.norm h hp hword sx
  rw [e] at e2
  have := g.oneDom h hp sx dx _ (acN_reach hword) rfl (by show ∀ k, k < n.toNat → 0 ≤ (acN n d (nwF n d _) (elA n d w u)).getD k 0; rw [← e2]; exact dy)
  rw [e2]
  exact this
end
end Go.Proofs.YtgelkakjmbiibaaGreatDoor

namespace Go.Proofs.YtgelkakjmbiibaaGreatDoor
set_option linter.unusedVariables false
set_option linter.unusedSimpArgs false
section
variable {n : Int} {d : List Int} {R : List (List Int)}
theorem rngW_rev {t : List Int} (h : rngW n t) : rngW n t.reverse := fun y hy => h y (List.mem_reverse.1 hy)
theorem rngW_app {s t : List Int} (hs : rngW n s) (ht : rngW n t) : rngW n (s ++ t) := fun y hy => (List.mem_append.1 hy).elim (hs y) (ht y)
theorem WlOk.back (h : WlOk n d R) : ∀ {t : List Int}, rngW n t → ∀ {z : List Int}, z.length = n.toNat → acN n d t.reverse (acN n d t z) = z
  | [], _, _, _ => rfl
  | i :: t, ht, z, hz => by
    have hi := ht i List.mem_cons_self
    rw [List.reverse_cons, acN_app]
    show acN n d t.reverse (rp n d i.toNat (rp n d i.toNat (acN n d t z))) = z
    rw [rp_rp h.co (by omega) (acN_len hz _), h.back (fun y hy => ht y (List.mem_cons_of_mem _ hy)) hz]
theorem WlOk.forth (h : WlOk n d R) {t : List Int} (ht : rngW n t) {z : List Int} (hz : z.length = n.toNat) : acN n d t (acN n d t.reverse z) = z := by
  have := h.back (rngW_rev ht) hz
  rwa [List.reverse_reverse] at this
theorem SmW.ones (hn : 0 < n) : SmW n (Proofs.YtgelkakjmbiibaaGreatDoor.ones n 1) := ⟨ones_len n 1, fun k hk => by rw [ones_get hk]; omega⟩
theorem WlOk.par (h : WlOk n d R) : ∀ {v : List Int}, rngW n v → ∃ q : Nat, v.length = lnW n R (acN n d v (Proofs.YtgelkakjmbiibaaGreatDoor.ones n 1)) + 2 * q
  | [], _ => ⟨0, by show 0 = lnW n R (Proofs.YtgelkakjmbiibaaGreatDoor.ones n 1) + 0; rw [(((h.lev 0).2 _).1 (List.mem_singleton.2 rfl)).2]⟩
  | i :: t, hv => by
    have hi := hv i List.mem_cons_self
    have ht : rngW n t := fun y hy => hv y (List.mem_cons_of_mem _ hy)
    obtain ⟨q, hq⟩ := h.par ht
    have hw := acN_reach (d := d) ht
    have hnz := hw.nz h.co (show i.toNat < n.toNat by omega)
    have hl := h.co.ln (show i.toNat < n.toNat by omega) (acN n d t (Proofs.YtgelkakjmbiibaaGreatDoor.ones n 1)) hnz
    have e : acN n d (i :: t) (Proofs.YtgelkakjmbiibaaGreatDoor.ones n 1) = rp n d i.toNat (acN n d t (Proofs.YtgelkakjmbiibaaGreatDoor.ones n 1)) := rfl
    rw [e, List.length_cons]
    by_cases hp : 0 < (acN n d t (Proofs.YtgelkakjmbiibaaGreatDoor.ones n 1)).getD i.toNat 0
    · exact ⟨q, by have := hl.1 hp; omega⟩
    · exact ⟨q + 1, by have := hl.2 (by omega); omega⟩
theorem GrOk.inv (g : GrOk n d) (h : WlOk n d R) (hp : PhOk n d) {v : List Int} (hv : rngW n v) : lnW n R (acN n d v.reverse (Proofs.YtgelkakjmbiibaaGreatDoor.ones n 1)) ≤ lnW n R (acN n d v (Proofs.YtgelkakjmbiibaaGreatDoor.ones n 1)) := by
  have hw := acN_reach (d := d) hv
  have hx := nw_rng h hp hw
  have l1 := ones_len n 1
  have lr : (acN n d v.reverse (Proofs.YtgelkakjmbiibaaGreatDoor.ones n 1)).length = n.toNat := acN_len l1 _
  have e1 : acN n d (nwF n d (acN n d v (Proofs.YtgelkakjmbiibaaGreatDoor.ones n 1))) (acN n d v.reverse (Proofs.YtgelkakjmbiibaaGreatDoor.ones n 1)) = Proofs.YtgelkakjmbiibaaGreatDoor.ones n 1 := by
    rw [← g.norm h hp hv lr, h.forth hv l1]
  have e2 := h.back hx lr
  rw [e1] at e2
  obtain ⟨q, hq⟩ := h.par (rngW_rev hx)
  rw [e2, List.length_reverse, (h.nw hp hw).1] at hq
  omega
theorem GrOk.invLen (g : GrOk n d) (h : WlOk n d R) (hp : PhOk n d) {v : List Int} (hv : rngW n v) : lnW n R (acN n d v.reverse (Proofs.YtgelkakjmbiibaaGreatDoor.ones n 1)) = lnW n R (acN n d v (Proofs.YtgelkakjmbiibaaGreatDoor.ones n 1)) := by
  have h1 := g.inv h hp hv
  have h2 := g.inv h hp (rngW_rev hv)
  rw [List.reverse_reverse] at h2
  omega
theorem GrOk.word (g : GrOk n d) (h : WlOk n d R) (hp : PhOk n d) {v : List Int} (hv : rngW n v) :
    actF n d v (Proofs.YtgelkakjmbiibaaGreatDoor.ones n 1) = acN n d v (Proofs.YtgelkakjmbiibaaGreatDoor.ones n 1) ∧ rngW n (nwF n d (actF n d v (Proofs.YtgelkakjmbiibaaGreatDoor.ones n 1))) ∧ actF n d (nwF n d (actF n d v (Proofs.YtgelkakjmbiibaaGreatDoor.ones n 1))) (Proofs.YtgelkakjmbiibaaGreatDoor.ones n 1) = actF n d v (Proofs.YtgelkakjmbiibaaGreatDoor.ones n 1) ∧
    (∃ q : Nat, v.length = (nwF n d (actF n d v (Proofs.YtgelkakjmbiibaaGreatDoor.ones n 1))).length + 2 * q) ∧ (nwF n d (actF n d v (Proofs.YtgelkakjmbiibaaGreatDoor.ones n 1))).length ≤ 24 ∧ (nwF n d (actF n d v.reverse (Proofs.YtgelkakjmbiibaaGreatDoor.ones n 1))).length = (nwF n d (actF n d v (Proofs.YtgelkakjmbiibaaGreatDoor.ones n 1))).length := by
  have s1 := SmW.ones g.pos
  have e := g.act h hp (B := 20) (by omega) s1.len s1.ent hv
  have er := g.act h hp (B := 20) (by omega) s1.len s1.ent (rngW_rev hv)
  have hw := acN_reach (d := d) hv
  have hwr := acN_reach (d := d) (rngW_rev hv)
  obtain ⟨n1, n2, n3⟩ := h.nw hp hw
  have n4 := (h.nw hp hwr).1
  rw [e, er]
  refine ⟨rfl, n3, n2, ?_, by rw [n1]; exact lnW_le h.co _, by rw [n1, n4, g.invLen h hp hv]⟩
  obtain ⟨q, hq⟩ := h.par hv
  exact ⟨q, by rw [n1]; exact hq⟩
theorem GrOk.sameAct (g : GrOk n d) (h : WlOk n d R) (hp : PhOk n d) {v : List Int} (hv : rngW n v) {w : List Int} {B : Int} (hB : 0 ≤ B ∧ B ≤ 20000) (hl : w.length = n.toNat) (hb : ∀ k, k < n.toNat → -B ≤ w.getD k 0 ∧ w.getD k 0 ≤ B) : actF n d (nwF n d (actF n d v (Proofs.YtgelkakjmbiibaaGreatDoor.ones n 1))) w = actF n d v w := by
  have hx := (g.word h hp hv).2.1
  rw [(g.word h hp hv).1] at hx ⊢
  rw [g.act h hp hB hl hb hx, g.act h hp hB hl hb hv, g.norm h hp hv hl]
theorem nw_inj {u v : List Int} (h : WlOk n d R) (hp : PhOk n d) (hu : Reach n d u) (hv : Reach n d v) (e : nwF n d u = nwF n d v) : u = v := by
  rw [← (h.nw hp hu).2.1, ← (h.nw hp hv).2.1, e]
theorem GrOk.undo (g : GrOk n d) (h : WlOk n d R) (hp : PhOk n d) {v : List Int} (hv : rngW n v) : nwF n d (actF n d (v ++ nwF n d (actF n d v.reverse (Proofs.YtgelkakjmbiibaaGreatDoor.ones n 1))) (Proofs.YtgelkakjmbiibaaGreatDoor.ones n 1)) = [] := by
  have s1 := SmW.ones g.pos
  have h1 := g.word h hp (rngW_rev hv)
  rw [actF_app, h1.2.2.1, h1.1, g.act h hp (B := 800) (by omega) (acN_len s1.len _) (fun k hk => by have := g.bound h hp (rngW_rev hv) (B := 20) (by omega) s1.len s1.ent hk; omega) hv, h.forth hv s1.len, nw_one h hp]
end
end Go.Proofs.YtgelkakjmbiibaaGreatDoor

namespace Go.Proofs.YtgelkakjmbiibaaGreatDoor
set_option linter.unusedVariables false
set_option linter.unusedSimpArgs false
section
variable {n : Int} {d : List Int} {R : List (List Int)} {w : List Int}
theorem wordB_of {n : Int} {d t : List Int} (hS : (tyS n d).isSome = true) (ht : rngW n t) (hl : t.length ≤ 60) : wordB n d t = true := by
  rw [wordB, hS, Bool.true_and, wdOk, decide_eq_true (by omega), Bool.true_and, Bool.not_eq_true']
  refine List.any_eq_false.2 fun y hy => ?_
  have := ht y hy
  simp [inB, this.1, show y ≤ n - 1 by omega]
theorem sm_wt {B : Int} (hn : 0 < n) (hB : B ≤ 1000) (hl : w.length = n.toNat) (hb : ∀ k, k < n.toNat → -B ≤ w.getD k 0 ∧ w.getD k 0 ≤ B) : wtOk n w = true := wtOk_of (by omega) fun k hk => by
  have := hb k (by omega)
  omega
structure WdLaw (n : Int) (d u v w : List Int) : Prop where
  wv : wordB n d v = true
  wu : wordB n d u = true
  nv : nwOf n d v = nwF n d (actF n d v (ones n 1))
  wx : wordB n d (nwOf n d v) = true
  same : seB n d v (nwOf n d v) = true
  again : nwOf n d (nwOf n d v) = nwOf n d v
  len : ∃ q : Nat, v.length = (nwOf n d v).length + 2 * q
  act : actOf n d v w = actOf n d (nwOf n d v) w
  app : actOf n d u (actOf n d v w) = actOf n d (u ++ v) w
  root : actOf n d v (wtOf n d w) = wtOf n d (arOf n d v w)
  back : (ivOf n d v).length = (nwOf n d v).length
  undo : (nwOf n d (v ++ ivOf n d v)).length = 0
  iff : seB n d u v = samB (nwOf n d u) (nwOf n d v)
theorem GrOk.wdLaw (g : GrOk n d) (gt : GtOk n d) (h : WlOk n d R) (hp : PhOk n d) (hS : (tyS n d).isSome = true) {u v : List Int} (hu : rngW n u) (hul : u.length ≤ 12) (hv : rngW n v) (hvl : v.length ≤ 11)
    (hl : w.length = n.toNat) (hb : ∀ k, k < n.toNat → -4 ≤ w.getD k 0 ∧ w.getD k 0 ≤ 4) : WdLaw n d u v w := by
  have hn := g.pos
  have h4 := g.n4
  obtain ⟨a1, a2, a3, a4, a5, a6⟩ := g.word h hp hv
  obtain ⟨b1, b2, b3, b4, b5, b6⟩ := g.word h hp hu
  have wv := wordB_of hS hv (by omega)
  have wu := wordB_of hS hu (by omega)
  have nv : nwOf n d v = nwF n d (actF n d v (ones n 1)) := by rw [nwOf, if_pos wv]
  have nu : nwOf n d u = nwF n d (actF n d u (ones n 1)) := by rw [nwOf, if_pos wu]
  have wx : wordB n d (nwOf n d v) = true := by rw [nv]; exact wordB_of hS a2 (by omega)
  have hwt := sm_wt hn (B := 4) (by omega) hl hb
  have iv : ivOf n d v = nwF n d (actF n d v.reverse (ones n 1)) := by rw [ivOf, if_pos wv]
  have s1 := SmW.ones hn
  have bnd : ∀ {t : List Int}, rngW n t → ∀ {x : List Int} {B : Int}, 0 ≤ B → x.length = n.toNat → (∀ k, k < n.toNat → -B ≤ x.getD k 0 ∧ x.getD k 0 ≤ B) → ∀ k, k < n.toNat → -(40 * B) ≤ (acN n d t x).getD k 0 ∧ (acN n d t x).getD k 0 ≤ 40 * B := fun ht _ _ hB hx hxb k hk => g.bound h hp ht hB hx hxb hk
  have ev : actF n d v w = acN n d v w := g.act h hp (B := 4) (by omega) hl hb hv
  have lv : (acN n d v w).length = n.toNat := acN_len hl _
  have bv := bnd hv (B := 4) (by omega) hl hb
  have hwt2 : wtOk n (actF n d v w) = true := by rw [ev]; exact sm_wt hn (B := 160) (by omega) lv fun k hk => by have := bv k hk; omega
  have huv := rngW_app hu hv
  have wuv := wordB_of hS huv (by rw [List.length_append]; omega)
  -- the weight of w
  have wN : wtF n d w = wtN n d w := by
    refine ext_getD (by rw [wtF_len, wtN_len]) fun k hk => ?_
    rw [wtF_len] at hk
    rw [wtN_get hk]
    exact (wtF_at gt.d3 (fun q hq => by have := hb q (by omega); omega) hl h4 hk).1
  have bN : ∀ k, k < n.toNat → -48 ≤ (wtN n d w).getD k 0 ∧ (wtN n d w).getD k 0 ≤ 48 := fun k hk => by
    rw [wtN_get hk]
    have h1 := dotN_abs (w := fun j => atI n d k j) (c := (w.getD · 0)) (A := 3) (B := 4) (by omega) (by omega) (m := n.toNat) fun j hj => ⟨g.ents k j, hb j hj⟩
    omega
  have wtf : wtOf n d w = wtN n d w := by rw [wtOf, hS, hwt, ← wN]; rfl
  have ar : arF n d v w = arN n d v w := gt.act h4 h hp (B := 4) (by omega) hl hb hv
  have lar : (arN n d v w).length = n.toNat := (arN_len v).trans hl
  have bar : ∀ k, k < n.toNat → -160 ≤ (arN n d v w).getD k 0 ∧ (arN n d v w).getD k 0 ≤ 160 := fun k hk => by have := gt.bound h4 h hp hv (B := 4) (by omega) hl hb hk; omega
  have waN : wtF n d (arN n d v w) = wtN n d (arN n d v w) := by
    refine ext_getD (by rw [wtF_len, wtN_len]) fun k hk => ?_
    rw [wtF_len] at hk
    rw [wtN_get hk]
    exact (wtF_at gt.d3 (fun q hq => by have := bar q (by omega); omega) lar h4 hk).1
  refine ⟨wv, wu, nv, wx, ?_, ?_, by rw [nv]; exact a4, ?_, ?_, ?_, by rw [iv, nv]; exact a6, ?_, ?_⟩
  · rw [seB, wv, wx, nv, a3]
    exact samB_of rfl
  · rw [nwOf, if_pos wx, nv, a3]
  · rw [actOf, actOf, wv, wx, hwt, nv]
    exact (g.sameAct h hp hv (B := 4) (by omega) hl hb).symm
  · have e1 : actOf n d v w = actF n d v w := by rw [actOf, wv, hwt]; rfl
    rw [e1, actOf, actOf, wu, wuv, hwt, hwt2, actF_app]
  · rw [wtf]
    have e1 : arOf n d v w = arN n d v w := by rw [arOf, wv, hwt, ← ar]; rfl
    have hw1 := sm_wt (w := wtN n d w) hn (B := 48) (by omega) (wtN_len _ _ _) bN
    have hw2 := sm_wt (w := arN n d v w) hn (B := 160) (by omega) lar bar
    rw [e1, actOf, wv, hw1, wtOf, hS, hw2]
    show actF n d v (wtN n d w) = wtF n d (arN n d v w)
    rw [waN, wtN_ar hl hv]
    exact g.act h hp (B := 48) (by omega) (wtN_len _ _ _) bN hv
  · have hr := (g.word h hp (rngW_rev hv)).2.1
    have hl2 := (g.word h hp (rngW_rev hv)).2.2.2.2.1
    have wvb : wordB n d (v ++ ivOf n d v) = true := by rw [iv]; exact wordB_of hS (rngW_app hv hr) (by rw [List.length_append]; omega)
    rw [nwOf, if_pos wvb, iv, g.undo h hp hv]
    rfl
  · rw [seB, wu, wv, nu, nv]
    show samB _ _ = _
    cases e : samB (nwF n d (actF n d u (ones n 1))) (nwF n d (actF n d v (ones n 1))) with
    | true =>
      have := samB_true e
      rw [b1, a1] at this ⊢
      exact samB_of (nw_inj h hp (acN_reach hu) (acN_reach hv) this)
    | false =>
      refine samB_not fun hh => ?_
      rw [hh, samB_of rfl] at e
      cases e
end
theorem sm_of {n : Int} {z : List Int} (h : z.length = n.toNat ∧ ∀ q ∈ z, -4 ≤ q ∧ q ≤ 4) : SmW n z ∧ ∀ k, k < n.toNat → -4 ≤ z.getD k 0 ∧ z.getD k 0 ≤ 4 := by
  have hb : ∀ k, k < n.toNat → -4 ≤ z.getD k 0 ∧ z.getD k 0 ≤ 4 := fun k hk => h.2 _ (by rw [List.getD, List.getElem?_eq_getElem (by omega)]; exact List.getElem_mem _)
  exact ⟨⟨h.1, fun k hk => by have := hb k hk; omega⟩, hb⟩
theorem anyF_true {p : List Int → Bool} {L : List (List Int)} {i : Nat} {f : Bool} (hf : f = (L.take i).any p) (h : f = true) : true = (L.take (i + 1)).any p := by
  rw [List.take_add_one, List.any_append, ← hf, h, Bool.true_or]
theorem anyF_false {p : List Int → Bool} {L : List (List Int)} {i : Nat} {f : Bool} (hi : i < L.length) (hf : f = (L.take i).any p) (h : f = false) : p (L.getD i []) = (L.take (i + 1)).any p := by
  rw [List.take_add_one, List.any_append, ← hf, h, Bool.false_or, List.getElem?_eq_getElem hi, List.getD, List.getElem?_eq_getElem hi]
  simp
theorem anyF_all {L : List (List Int)} {i : Nat} {f : Bool} {M : List Int} (hi : L.length ≤ i) (hf : f = (L.take i).any (fun q => samB q M)) (hm : M ∈ L) : f = true := by
  rw [hf, List.take_of_length_le hi, List.any_eq_true]
  exact ⟨M, hm, samB_of rfl⟩
theorem allF_false {p : Nat → Bool} {j : Nat} {e : Bool} (he : e = (List.range j).all p) (h : e = false) : false = (List.range (j + 1)).all p := by
  rw [List.range_succ, List.all_append, ← he, h, Bool.false_and]
theorem allF_true {p : Nat → Bool} {j : Nat} {e : Bool} (he : e = (List.range j).all p) (h : e = true) : p j = (List.range (j + 1)).all p := by
  rw [List.range_succ, List.all_append, ← he, h, Bool.true_and]
  simp
theorem allF_eq {x y : List Int} {n : Int} {j : Nat} {e : Bool} (hj : n.toNat ≤ j ∧ j ≤ n.toNat) (he : e = (List.range j).all (fun q => decide (0 ≤ x.getD q 0))) (h : x = y ↔ ∀ k, k < n.toNat → 0 ≤ x.getD k 0) : e = samB x y := by
  obtain rfl : j = n.toNat := by omega
  cases e with
  | true =>
    refine (samB_of (h.2 fun k hk => ?_)).symm
    exact of_decide_eq_true (List.all_eq_true.1 he.symm k (List.mem_range.2 hk))
  | false =>
    refine (samB_not fun hh => ?_).symm
    have := h.1 hh
    have h2 : ((List.range n.toNat).all fun q => decide (0 ≤ x.getD q 0)) = true := List.all_eq_true.2 fun k hk => decide_eq_true (this k (List.mem_range.1 hk))
    rw [h2] at he
    cases he
theorem z64 {n : Int} {z : List Int} (h : ∀ k, k < n.toNat → -4 ≤ z.getD k 0 ∧ z.getD k 0 ≤ 4) (hl : z.length = n.toNat) : ∀ y ∈ z, -9223372036854775808 ≤ y ∧ y ≤ 9223372036854775807 := fun y hy => by
  obtain ⟨k, hk, e⟩ := List.getElem_of_mem hy
  have := h k (by omega)
  rw [List.getD, List.getElem?_eq_getElem hk, Option.getD_some, e] at this
  omega
end Go.Proofs.YtgelkakjmbiibaaGreatDoor
