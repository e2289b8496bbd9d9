/-
  Words, their normal words and their inverses, by a table of the group. No program is spoken of.
-/
import Derived.Test.YtgelkakjmbiibaaGreatDoorGrd
namespace Go.Proofs.YtgelkakjmbiibaaGreatDoor
set_option linter.unusedVariables false
set_option linter.unusedSimpArgs false
section
variable {n : Int} {d : List Int} {R : List (List Int)}
theorem rngW_rev {t : List Int} (h : rngW n t) : rngW n t.reverse := fun y hy => h y (List.mem_reverse.1 hy)
theorem WlOk.back (h : WlOk n d R) : ∀ {t : List Int}, rngW n t → ∀ {z : List Int}, z.length = n.toNat → acN n d t.reverse (acN n d t z) = z
  | [], _, _, _ => rfl
  | i :: t, ht, z, hz => by
    have hi := ht i List.mem_cons_self
    rw [List.reverse_cons, acN_app]
    show acN n d t.reverse (rp n d i.toNat (rp n d i.toNat (acN n d t z))) = z
    rw [rp_rp h.co (by omega) (acN_len hz _), h.back (fun y hy => ht y (List.mem_cons_of_mem _ hy)) hz]
theorem WlOk.forth (h : WlOk n d R) {t : List Int} (ht : rngW n t) {z : List Int} (hz : z.length = n.toNat) : acN n d t (acN n d t.reverse z) = z := by
  have := h.back (rngW_rev ht) hz
  rwa [List.reverse_reverse] at this
theorem SmW.ones (hn : 0 < n) : SmW n (Proofs.YtgelkakjmbiibaaGreatDoor.ones n 1) := ⟨ones_len n 1, fun k hk => by rw [ones_get hk]; omega⟩
theorem WlOk.par (h : WlOk n d R) : ∀ {v : List Int}, rngW n v → ∃ q : Nat, v.length = lnW n R (acN n d v (Proofs.YtgelkakjmbiibaaGreatDoor.ones n 1)) + 2 * q
  | [], _ => ⟨0, by show 0 = lnW n R (Proofs.YtgelkakjmbiibaaGreatDoor.ones n 1) + 0; rw [(((h.lev 0).2 _).1 (List.mem_singleton.2 rfl)).2]⟩
  | i :: t, hv => by
    have hi := hv i List.mem_cons_self
    have ht : rngW n t := fun y hy => hv y (List.mem_cons_of_mem _ hy)
    obtain ⟨q, hq⟩ := h.par ht
    have hw := acN_reach (d := d) ht
    have hnz := hw.nz h.co (show i.toNat < n.toNat by omega)
    have hl := h.co.ln (show i.toNat < n.toNat by omega) (acN n d t (Proofs.YtgelkakjmbiibaaGreatDoor.ones n 1)) hnz
    have e : acN n d (i :: t) (Proofs.YtgelkakjmbiibaaGreatDoor.ones n 1) = rp n d i.toNat (acN n d t (Proofs.YtgelkakjmbiibaaGreatDoor.ones n 1)) := rfl
    rw [e, List.length_cons]
    by_cases hp : 0 < (acN n d t (Proofs.YtgelkakjmbiibaaGreatDoor.ones n 1)).getD i.toNat 0
    · exact ⟨q, by have := hl.1 hp; omega⟩
    · exact ⟨q + 1, by have := hl.2 (by omega); omega⟩
theorem GrOk.inv (g : GrOk n d) (h : WlOk n d R) (hp : PhOk n d) {v : List Int} (hv : rngW n v) : lnW n R (acN n d v.reverse (Proofs.YtgelkakjmbiibaaGreatDoor.ones n 1)) ≤ lnW n R (acN n d v (Proofs.YtgelkakjmbiibaaGreatDoor.ones n 1)) := by
  have hw := acN_reach (d := d) hv
  have hx := nw_rng h hp hw
  have l1 := ones_len n 1
  have lr : (acN n d v.reverse (Proofs.YtgelkakjmbiibaaGreatDoor.ones n 1)).length = n.toNat := acN_len l1 _
  have e1 : acN n d (nwF n d (acN n d v (Proofs.YtgelkakjmbiibaaGreatDoor.ones n 1))) (acN n d v.reverse (Proofs.YtgelkakjmbiibaaGreatDoor.ones n 1)) = Proofs.YtgelkakjmbiibaaGreatDoor.ones n 1 := by
    rw [← g.norm h hp hv lr, h.forth hv l1]
  have e2 := h.back hx lr
  rw [e1] at e2
  obtain ⟨q, hq⟩ := h.par (rngW_rev hx)
  rw [e2, List.length_reverse, (h.nw hp hw).1] at hq
  omega
theorem GrOk.invLen (g : GrOk n d) (h : WlOk n d R) (hp : PhOk n d) {v : List Int} (hv : rngW n v) : lnW n R (acN n d v.reverse (Proofs.YtgelkakjmbiibaaGreatDoor.ones n 1)) = lnW n R (acN n d v (Proofs.YtgelkakjmbiibaaGreatDoor.ones n 1)) := by
  have h1 := g.inv h hp hv
  have h2 := g.inv h hp (rngW_rev hv)
  rw [List.reverse_reverse] at h2
  omega
theorem GrOk.word (g : GrOk n d) (h : WlOk n d R) (hp : PhOk n d) {v : List Int} (hv : rngW n v) :
    actF n d v (Proofs.YtgelkakjmbiibaaGreatDoor.ones n 1) = acN n d v (Proofs.YtgelkakjmbiibaaGreatDoor.ones n 1) ∧ rngW n (nwF n d (actF n d v (Proofs.YtgelkakjmbiibaaGreatDoor.ones n 1))) ∧ actF n d (nwF n d (actF n d v (Proofs.YtgelkakjmbiibaaGreatDoor.ones n 1))) (Proofs.YtgelkakjmbiibaaGreatDoor.ones n 1) = actF n d v (Proofs.YtgelkakjmbiibaaGreatDoor.ones n 1) ∧
    (∃ q : Nat, v.length = (nwF n d (actF n d v (Proofs.YtgelkakjmbiibaaGreatDoor.ones n 1))).length + 2 * q) ∧ (nwF n d (actF n d v (Proofs.YtgelkakjmbiibaaGreatDoor.ones n 1))).length ≤ 24 ∧ (nwF n d (actF n d v.reverse (Proofs.YtgelkakjmbiibaaGreatDoor.ones n 1))).length = (nwF n d (actF n d v (Proofs.YtgelkakjmbiibaaGreatDoor.ones n 1))).length := by
  have s1 := SmW.ones g.pos
  have e := g.act h hp (B := 20) (by omega) s1.len s1.ent hv
  have er := g.act h hp (B := 20) (by omega) s1.len s1.ent (rngW_rev hv)
  have hw := acN_reach (d := d) hv
  have hwr := acN_reach (d := d) (rngW_rev hv)
  obtain ⟨n1, n2, n3⟩ := h.nw hp hw
  have n4 := (h.nw hp hwr).1
  rw [e, er]
  refine ⟨rfl, n3, n2, ?_, by rw [n1]; exact lnW_le h.co _, by rw [n1, n4, g.invLen h hp hv]⟩
  obtain ⟨q, hq⟩ := h.par hv
  exact ⟨q, by rw [n1]; exact hq⟩
end
end Go.Proofs.YtgelkakjmbiibaaGreatDoor
