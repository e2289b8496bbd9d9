/-
  How the arguments of this seat's laws are opened: from the reading of an argument as data to the words of the base (Ints, Tms, IsMat).
-/
import Derived.Test.YtbmnnbglipkidaaBase
import Derived.ProofKit
import Derived.SizedLaws
import Derived.Deep.Slices
import Derived.Deep.Fields
import Derived.ChangeSame
import Derived.Lib.SmallJoins
namespace Go.Proofs.Ytbmnnbglipkidaa
set_option linter.unusedVariables false
set_option linter.unusedSimpArgs false
open Go.ChangeShapes Go.WideShapes Go.ChangeAt Go.RowKit Go.Deep Go.Joins
theorem Try.own : ownKnob Try.prog.godebug = none := by kernel_rfl
theorem Try.laidOut : laidOutB Try.prog = true := by kernel_rfl
section
variable {H : Type} {enc : TypeId × Value → H} {P : Program} {w : World}
theorem ints_of_trod {t e : TypeId} (ht : P.underlying t = some (.slice e)) (he : P.underlying e = some (.int .i64)) (hc : P.cellsOf e = 1) {fuel : Nat} {v : Value} {x : DataW H × List MemPlace}
    (h : DataW.trod enc P w 0 (fun _ => true) true fuel t [v] = some x) : ∃ xs, Ints w v xs ∧ ∀ n ∈ xs, (Lit.int .i64 n).wf = true := by
  rcases open_ints ht he hc h with ⟨hcs, _⟩ | ⟨a, len, cap, zs, hcs, _, hl, hm, hz, _, hcell, hwz⟩
  · simp at hcs
    subst hcs
    exact ⟨[], Sl.nil w 1, by simp⟩
  · simp at hcs
    subst hcs
    simp only [if_true] at hz
    have hlen : (zs.take len).length = len := by simp; omega
    refine ⟨zs.take len, ⟨by simp, some a, cap, by rw [hlen], by omega, hm, (fun h => by cases h), fun hpos => ?_⟩, fun n hn => hwz n (List.mem_of_mem_take hn)⟩
    rw [hlen] at hpos
    obtain ⟨b, off, spot⟩ := a
    have hspot : spot = none := by simpa [Addr.add] using World.cell?_spot (hcell 0 (by omega))
    subst hspot
    refine ⟨b, off, rfl, by have := World.block_lt_of_cell? w _ (hcell 0 (by omega)); simpa [Addr.add] using this, fun k hk => ?_⟩
    rw [hlen, Nat.mul_one] at hk
    rw [← add_plain, hcell k (by omega)]
    simp [List.getD, hk, show k < zs.length by omega]
theorem sl_of_trod {t e : TypeId} {fs : Array Field} (ht : P.underlying t = some (.slice e)) (he : P.underlying e = some (.struct fs)) (hone : oneCellFields P fs = true) (hC : P.cellsOf e = fs.size) (hpos : 0 < fs.size)
    {fuel : Nat} {v : Value} {x : DataW H × List MemPlace} (h : DataW.trod enc P w 0 (fun _ => true) true fuel t [v] = some x) :
    ∃ (n : Nat) (cs : List Value), Sl w v n fs.size cs ∧ ∀ i, i < n → ∀ (j : Nat) (f : Field), fs[j]? = some f → ∃ (u : Value) (m : Nat) (y : DataW H × List MemPlace), cs[i * fs.size + j]? = some u ∧ DataW.trod enc P w 0 (fun _ => true) true m f.type [u] = some y := by
  rcases open_slice ht h with ⟨hcs, _⟩ | ⟨a, len, cap, m, n, D, Pl, hcs, hb, hl, hm, hmm, hx, hi⟩
  · simp at hcs
    subst hcs
    exact ⟨0, [], Sl.nil w _, fun i hi => by omega⟩
  · simp at hcs
    subst hcs
    simp only [if_true] at hmm
    subst hmm
    rw [hC] at hi
    -- each element's cells
    have hel : ∀ i, i < len → ∃ cs', w.cells? 0 (a.add (i * fs.size)) fs.size = some cs' ∧ DataW.trod enc P w 0 (fun _ => true) true n e cs' = some (D i, Pl i) := fun i hi' => hi i (by omega)
    have hcellAt : ∀ k, k < len * fs.size → ∃ u, w.cell? (a.add k) = some u := by
      intro k hk
      have hdiv : k / fs.size < len := by rw [Nat.div_lt_iff_lt_mul hpos]; exact hk
      obtain ⟨cs', hc', _⟩ := hel (k / fs.size) hdiv
      obtain ⟨_, hcl, hat⟩ := World.cells?_some hc'
      have hmod : k % fs.size < fs.size := Nat.mod_lt _ hpos
      have h1 := hat (k % fs.size) hmod
      rw [Go.Deep.add_add, Nat.mul_comm, Nat.div_add_mod] at h1
      exact ⟨cs'[k % fs.size]'(by omega), by rw [h1, List.getElem?_eq_getElem (by omega)]⟩
    have hU : ∃ U : Nat → Value, ∀ k, k < len * fs.size → w.cell? (a.add k) = some (U k) := ⟨fun k => (w.cell? (a.add k)).getD undef, fun k hk => by obtain ⟨u, hu⟩ := hcellAt k hk; simp [hu]⟩
    obtain ⟨U, hU⟩ := hU
    refine ⟨len, (List.range (len * fs.size)).map U, ⟨by simp, some a, _, rfl, hl, hm, (fun h => by cases h), fun hlen => ?_⟩, fun i hi' j f hj => ?_⟩
    · obtain ⟨b, off, spot⟩ := a
      have h0 := hU 0 (Nat.mul_pos hlen hpos)
      have hspot : spot = none := by simpa [Addr.add] using World.cell?_spot h0
      subst hspot
      refine ⟨b, off, rfl, by have := World.block_lt_of_cell? w _ h0; simpa [Addr.add] using this, fun k hk => ?_⟩
      rw [← add_plain, hU k hk]
      simp [List.getD, hk]
    · obtain ⟨cs', hc', ht'⟩ := hel i hi'
      obtain ⟨ys, n', hn', hy, hlen, hyl, hf⟩ := DataW.trod_struct he ht'
      obtain ⟨_, hcl, hat⟩ := World.cells?_some hc'
      obtain ⟨ho, hk⟩ := hone_of hone j f hj
      have hjl : j < fs.size := (Array.getElem?_eq_some_iff.1 hj).1
      have hcell := hat j hjl
      rw [Go.Deep.add_add] at hcell
      have hlt : i * fs.size + j < len * fs.size := by
        have : (i + 1) * fs.size ≤ len * fs.size := Nat.mul_le_mul_right _ hi'
        rw [Nat.add_mul] at this
        omega
      have hv : cs'[j]? = some (cs'[j]'(by omega)) := List.getElem?_eq_getElem (by omega)
      have h1 := hf j f hj
      rw [ho, hk] at h1
      have hone' : (cs'.drop j).take 1 = [cs'[j]'(by omega)] := by
        rw [List.drop_eq_getElem_cons (by omega)]
        rfl
      rw [hone'] at h1
      have hys : ys[j]? = some (ys[j]'(by omega)) := List.getElem?_eq_getElem (by omega)
      have hUe : U (i * fs.size + j) = cs'[j]'(by omega) := by
        have e1 := hU _ hlt
        rw [hcell, hv] at e1
        exact (Option.some.inj e1).symm
      exact ⟨U (i * fs.size + j), n', _, by simp [hlt], by rw [hUe]; exact h1.trans hys⟩
end
end Go.Proofs.Ytbmnnbglipkidaa
