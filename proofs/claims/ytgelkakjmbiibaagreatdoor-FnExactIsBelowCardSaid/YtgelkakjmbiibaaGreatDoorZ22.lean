/-
  Lengths of elements and of normal words. No program is spoken of.
-/
import Derived.Test.YtgelkakjmbiibaaGreatDoorZ17
import Derived.Test.YtgelkakjmbiibaaGreatDoorLvN
import Derived.Test.YtgelkakjmbiibaaGreatDoorCarW
import Derived.Test.YtgelkakjmbiibaaGreatDoorFct
import Derived.Test.YtgelkakjmbiibaaGreatDoorWRhoA
namespace Go.Proofs.YtgelkakjmbiibaaGreatDoor
set_option linter.unusedVariables false
set_option linter.unusedSimpArgs false
section
variable {n : Int} {d : List Int} {R : List (List Int)}
theorem fpos_none {w : List Int} {m : Nat} (hl : w.length = m) (hf : fpos w < 0) : ∀ k, k < m → 0 ≤ w.getD k 0 := fun k hk => by
  unfold fpos posF at hf
  split at hf
  · omega
  · rename_i hn
    have := List.findIdx?_eq_none_iff.1 hn (w.getD k 0) (by rw [List.getD, List.getElem?_eq_getElem (by omega)]; exact List.getElem_mem _)
    have := of_decide_eq_false this
    omega
theorem WlOk.climb (h : WlOk n d R) : ∀ (f : Nat) {w x y : List Int}, Reach n d w → Proofs.YtgelkakjmbiibaaGreatDoor.climb n d f w = some (x, y) → y.length = lnW n R w ∧ actF n d y (ones n 1) = w ∧ ∀ z ∈ y, 0 ≤ z ∧ z < n
  | 0, _, _, _, _, hc => by cases hc
  | f + 1, w, x, y, hw, hc => by
    have lw := (hw.inv h.co).1
    by_cases hf : fpos w < 0
    · obtain ⟨_, e2⟩ := climb_end hc hf
      subst e2
      have e := hw.dom h.co (fpos_none lw hf)
      subst e
      refine ⟨(((h.lev 0).2 _).1 (List.mem_singleton.2 rfl)).2.symm, rfl, fun z hz => by simp at hz⟩
    · obtain ⟨g, z, e1, h2, e3⟩ := climb_step hc hf
      obtain rfl : f = g := by omega
      subst e3
      obtain ⟨a1, a2, a3⟩ := fpos_at hf
      have hi : (fpos w).toNat < n.toNat := by omega
      have ei : fpos w = ((fpos w).toNat : Int) := by omega
      generalize (fpos w).toNat = i at *
      rw [ei, h.rf hw hi] at h2
      obtain ⟨b1, b2, b3⟩ := h.climb f (hw.step hi) h2
      refine ⟨?_, ?_, fun q hq => ?_⟩
      · rw [List.length_cons, b1, (h.co.ln hi w (by omega)).2 a3]
      · show rfF n d (fpos w) (actF n d z (ones n 1)) = w
        rw [b2, ei, h.rf (hw.step hi) hi, rp_rp h.co hi lw]
      · rcases List.mem_cons.1 hq with rfl | hq
        · omega
        · exact b3 q hq
theorem Reach.bd (h : WlOk n d R) (hp : PhOk n d) {w : List Int} (hw : Reach n d w) : Bd n d w := by
  induction hw with
  | one => exact Bd.up hp
  | step hr hi ih =>
    rw [← h.rf hr hi]
    exact ih.refl hp ⟨by omega, by rw [Int.toNat_natCast, (hr.inv h.co).1]; exact hi⟩
theorem WlOk.nw (h : WlOk n d R) (hp : PhOk n d) {w : List Int} (hw : Reach n d w) : (nwF n d w).length = lnW n R w ∧ actF n d (nwF n d w) (ones n 1) = w ∧ ∀ z ∈ nwF n d w, 0 ≤ z ∧ z < n := by
  obtain ⟨x, hx⟩ := climb_ok hp (hw.bd h hp)
  exact h.climb _ hw hx
theorem WlOk.lnR (h : WlOk n d R) (w : List Int) : lnW n R w ≤ R.length := List.countP_le_length
theorem WlOk.lvNe (h : WlOk n d R) : ∀ j : Nat, j ≤ R.length → lvAt n d j ≠ []
  | 0, _ => by simp [lvAt]
  | j + 1, hj => by
    obtain ⟨w, hw⟩ := List.exists_mem_of_ne_nil _ (h.lvNe j (by omega))
    obtain ⟨hr, hln⟩ := ((h.lev j).2 w).1 hw
    have : ∃ i, i < n.toNat ∧ 0 < w.getD i 0 := by
      by_cases hn : ∀ i, i < n.toNat → ¬ 0 < w.getD i 0
      · exfalso
        have hall : ∀ b ∈ R, decide (prW n w b < 0) = true := fun b hb => by
          obtain ⟨k, hk, h1⟩ := h.co.nz b hb
          have h2 := dotN_gt (c := fun q => -(w.getD q 0)) (w := (b.getD · 0)) (j := k) (m := n.toNat) (fun q hq => ⟨by have := hn q hq; omega, h.co.ge b hb q⟩) hk (by have := hn k hk; have := hr.nz h.co hk; omega) h1
          have h3 : dotN (fun q => -(w.getD q 0)) (b.getD · 0) n.toNat = -(prW n w b) := by
            rw [dotN_comm, dotN_neg, prW, dotN_comm]
          exact decide_eq_true (by omega)
        have := List.countP_eq_length.2 hall
        unfold lnW at hln
        omega
      · obtain ⟨i, hi⟩ := Classical.not_forall.1 hn
        have hi3 := Classical.not_imp.1 hi
        exact ⟨i, hi3.1, by omega⟩
    obtain ⟨i, hi, hp⟩ := this
    intro e
    have := ((h.lev (j + 1)).2 (rp n d i w)).2 ⟨hr.step hi, by rw [(h.co.ln hi w (by omega)).1 hp, hln]⟩
    rw [e] at this
    simp at this
end
end Go.Proofs.YtgelkakjmbiibaaGreatDoor

namespace Go.Proofs.YtgelkakjmbiibaaGreatDoor
set_option linter.unusedVariables false
set_option linter.unusedSimpArgs false
open Go.RowKit
set_option maxHeartbeats 4000000 in
set_option maxRecDepth 100000 in
theorem normalOf_w {W : World} {own : List Asn} {cr : Int} {vcd : Value} {cd : List Int} {vx : Value} {x : List Int}  (scd : IsS vcd) (ecd : Ent own fun w => Ints w vcd cd)   (sx : IsS vx) (ex : Ent own fun w => Ints w vx x)  (hcr : 1 ≤ cr ∧ cr ≤ 4) (hcd : (cd.length : Int) = cr * cr) (hp : PhOk cr cd) (hb : Bd cr cd x) : Spec Tryz.prog 61 [.agg #[.int .i64 (cr), vcd], vx] W own (fun v ow => ∃ (r0 : Value), v = r0 ∧ IsS r0 ∧ ow = ints 3 r0 (nwF cr cd x) :: own) := by
 refine Spec.enter Tryz.f61 _ Tryz.func61 rfl (n := 21) rfl rfl ?_
 refine GC.seq (GC.region ?_)
 refine G.step (OG.box (cs := [.int .i64 (cr), vcd]) rfl rfl rfl) rfl rfl rfl ?_
 rintro _ _ ⟨g1, rfl, rfl⟩
 refine G.stepD (OD.assign rfl rfl) rfl rfl rfl ?_
 refine G.nil (GE.then_ (GC.seq (GC.region ?_)))
 refine G.step (OG.buildInts (xs := []) (is := []) rfl et22 rfl rfl rfl rfl rfl) rfl rfl rfl ?_
 rintro v2 _ ⟨hs3, rfl⟩
 refine G.stepD (OD.assign rfl rfl) rfl rfl rfl ?_
 refine G.nil (GE.then_ (GC.block ?_))
 obtain ⟨x1, hc0⟩ := climb_ok hp hb
 have hbl := hb.1
 refine GC.many0 (ints 3) ?_
 refine GC.at [1, 1, 0] 0 (env' := [(0, .agg #[.int .i64 (cr), vcd]), (1, vx), (2, .pointer (some ⟨g1, 0, none⟩)), (4, .slice none 0 0), (7, v2), (5, v2)]) ⟨rfl, rfl, rfl, rfl, rfl, rfl, trivial⟩ (own' := ints 3 v2 [] :: box g1 27 [.int .i64 (cr), vcd] :: many (ints 3) [] [] :: own) rfl ?_
 refine GC.loop (ι := Nat × List Int × List Int × List Int × Value × Value × Asn) (fun ⟨f, w, ws, rest, v, u, X⟩ => [(2, .pointer (some ⟨g1, 0, none⟩)), (1, v), (5, u)]) (fun ⟨f, w, ws, rest, v, u, X⟩ => ints 3 u ws :: box g1 27 [.int .i64 (cr), vcd] :: X :: own) (fun ⟨f, w, ws, rest, v, u, X⟩ => (IsS v) ∧ (Ent (X :: own) fun w_ => Ints w_ v w) ∧ (IsS u) ∧ ((w.length : Int) = cr) ∧ (climb cr cd f w = some (x1, rest)) ∧ (ws ++ rest = nwF cr cd x) ∧ (f + ws.length ≤ 16001)) (fun ⟨f, w, ws, rest, v, u, X⟩ => f) (16001, x, [], (nwF cr cd x), vx, v2, (many (ints 3) [] [])) (⟨sx, Ent.drop 1 ex, hs3, by omega, hc0, List.nil_append _, by simp⟩) ⟨rfl, rfl, rfl, trivial⟩ [] 0 rfl ?_
 rintro ⟨f, w, ws, rest, v, u, X⟩ ⟨hv, hE, hu, hwl, hcl, hws, hwf⟩
 refine GC.block (GC.seq (GC.region ?_))
 refine G.stepD (OD.move rfl rfl) rfl rfl rfl ?_
 refine G.step (OG.call [v, .func (.func 120) #[] #[]] ent89 rfl rfl rfl rfl (by exact (indexFuncN_w hv (Ent.drop 2 hE) (by omega)))) rfl rfl rfl ?_
 rintro _ _ ⟨rfl, rfl⟩
 refine G.stepD (OD.assign rfl rfl) rfl rfl rfl ?_
 refine G.nil (GE.then_ (GC.seq (GC.seq (GC.region ?_))))
 refine G.stepD (OD.move rfl rfl) rfl rfl rfl ?_
 refine G.stepD (OD.lss rfl rfl rfl) rfl rfl rfl ?_
 refine G.nil (GE.then_ ?_)
 refine GC.cond rfl (fun hc4 => ?_) (fun hc4 => ?_)
 replace hc4 := of_decide_eq_true hc4
 obtain ⟨_, hrn⟩ := climb_end hcl hc4
 refine GC.seq (GC.region ?_)
 refine G.stepD (OD.move rfl rfl) rfl rfl rfl ?_
 refine G.stepD (OD.assign rfl rfl) rfl rfl rfl ?_
 refine G.nil (GE.then_ (GC.ret (GE.passR (GE.blockR (GE.passR (GE.blockR ?_))))))
 exact GE.body [0] 2 (res1 rfl rfl) rfl (⟨u, rfl, hu, congrArg (fun (l0 : List Int) => ints 3 u l0 :: own) ((by rw [← hws, ← hrn, List.append_nil] : ws = nwF cr cd x))⟩)
 replace hc4 := of_decide_eq_false hc4
 obtain ⟨g2, z2, hg2, hcl2, hrz⟩ := climb_step hcl hc4
 have hfa : 0 ≤ posF (fun (y : Int) => decide (y < 0)) w ∧ (posF (fun (y : Int) => decide (y < 0)) w).toNat < w.length ∧ w.getD (posF (fun (y : Int) => decide (y < 0)) w).toNat 0 < 0 := fpos_at hc4
 refine GC.skip (GE.then_ (GC.seq (GC.region ?_)))
 refine G.stepD (OD.move rfl rfl) rfl rfl rfl ?_
 refine G.stepD (OD.move rfl rfl) rfl rfl rfl ?_
 refine G.step (OG.buildInts (xs := [.tmp 14]) (is := [posF (fun (y : Int) => decide (y < 0)) w]) rfl et22 rfl rfl rfl rfl rfl) rfl rfl rfl ?_
 rintro v5 _ ⟨hs6, rfl⟩
 refine G.step (OG.appendInts 1 rfl rfl et22 rfl rfl rfl (Ent.ints (i := 0) rfl) (by first | omega | (simp; omega))) rfl rfl rfl ?_
 rintro v7 _ ⟨hs8, rfl⟩
 refine G.stepD (OD.assign rfl rfl) rfl rfl rfl ?_
 refine G.nil (GE.then_ (GC.region ?_))
 refine G.stepD (OD.loadAgg rfl ti27 rfl (i := 2) rfl (us := [.int .i64 (cr), vcd]) rfl rfl) rfl rfl rfl ?_
 refine G.stepD (OD.move rfl rfl) rfl rfl rfl ?_
 refine G.stepD (OD.move rfl rfl) rfl rfl rfl ?_
 refine G.step (OG.call [.agg #[.int .i64 (cr), vcd], .int .i64 (posF (fun (y : Int) => decide (y < 0)) w), v] ent67 rfl rfl rfl rfl (by exact (reflectWeight_w scd (Ent.drop 4 ecd) hv (Ent.drop 3 hE) (hcr) (hcd) (⟨hfa.1, by omega⟩) (hwl)))) rfl rfl rfl ?_
 rintro v9 _ ⟨_, rfl, hs10, rfl⟩
 refine G.stepD (OD.assign rfl rfl) rfl rfl rfl ?_
 refine G.nil (GE.blockN ?_)
 exact GE.again (g2, rfF cr cd (posF (fun (y : Int) => decide (y < 0)) w) w, ws ++ [posF (fun (y : Int) => decide (y < 0)) w], z2, v9, v7, (ints 3 v9 (rfF cr cd (posF (fun (y : Int) => decide (y < 0)) w) w))) (⟨hs10, (Ent.ints (i := 0) rfl), hs8, by rw [rfF_len]; exact hwl, hcl2, by rw [hrz] at hws; exact (List.append_assoc _ _ _).trans hws, by rw [List.length_append, List.length_singleton]; omega⟩) (by first | omega | (dsimp only; omega)) ⟨rfl, rfl, rfl, trivial⟩ [2, 2, 0] 2 rfl
end Go.Proofs.YtgelkakjmbiibaaGreatDoor
