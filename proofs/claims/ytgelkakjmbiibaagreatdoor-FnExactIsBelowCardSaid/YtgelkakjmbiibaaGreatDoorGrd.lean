/-
  Climbing to the dominant weight of an orbit, by a table of the group. No program is spoken of.
-/
import Derived.Test.YtgelkakjmbiibaaGreatDoorGro
namespace Go.Proofs.YtgelkakjmbiibaaGreatDoor
set_option linter.unusedVariables false
set_option linter.unusedSimpArgs false
section
variable {n : Int} {d : List Int} {R : List (List Int)} {w : List Int}
theorem GrOk.elWt (g : GrOk n d) (h : WlOk n d R) (hp : PhOk n d) (hw : SmW n w) {u : List Int} (hu : Reach n d u) : wtOk n (elA n d w u) = true := by
  have h0 := g.pos
  refine wtOk_of (by rw [elA_len hw.len]; omega) fun k hk => ?_
  rw [elA_len hw.len] at hk
  have := g.elEnt h hp hw hu k hk
  omega
theorem GrOk.dom (g : GrOk n d) (h : WlOk n d R) (hp : PhOk n d) (hw : SmW n w) : ∀ (f : Nat) {u ws a b : List Int}, Reach n d u → rngW n ws → elA n d w u = acN n d ws w → domS n d f (elA n d w u) ws = some (a, b) →
    InOrb n d w a ∧ rngW n b ∧ a = acN n d b w ∧ (∀ k, k < n.toNat → 0 ≤ a.getD k 0) ∧ b.length ≤ ws.length + lnW n R (elA n d w u)
  | 0, _, _, _, _, _, _, _, hd => by cases hd
  | f + 1, u, ws, a, b, hu, hr, he, hd => by
    have hwt := g.elWt h hp hw hu
    by_cases hf : fpos (elA n d w u) < 0
    · obtain ⟨e1, e2⟩ := domS_end hd hwt hf
      subst e1 e2
      exact ⟨⟨u, hu, rfl⟩, hr, he, fpos_none (elA_len hw.len u) hf, by omega⟩
    · obtain ⟨f', e1, h2⟩ := domS_step hd hwt hf
      obtain rfl : f = f' := by omega
      obtain ⟨a1, a2, a3⟩ := fpos_at hf
      rw [elA_len hw.len] at a2
      have ei : fpos (elA n d w u) = ((fpos (elA n d w u)).toNat : Int) := by omega
      have hln := (h.co.ln a2 (elA n d w u) (by omega)).2 a3
      generalize hi : (fpos (elA n d w u)).toNat = i at *
      rw [ei, g.elRf h hp hw hu a2] at h2
      have hr2 : rngW n ((i : Int) :: ws) := fun y hy => by
        rcases List.mem_cons.1 hy with rfl | hy
        · omega
        · exact hr y hy
      have := g.dom h hp hw f (hu.step a2) hr2 (by rw [g.elStep h hp hw.len hu a2, he]; rfl) h2
      refine ⟨this.1, this.2.1, this.2.2.1, this.2.2.2.1, ?_⟩
      have h5 := this.2.2.2.2
      rw [g.elStep h hp hw.len hu a2, List.length_cons] at h5
      omega
end
end Go.Proofs.YtgelkakjmbiibaaGreatDoor
