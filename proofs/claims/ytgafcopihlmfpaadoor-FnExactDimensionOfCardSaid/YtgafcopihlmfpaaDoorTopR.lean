/-
  How an argument that is a slice of structs (of a slice of whole numbers and a whole number) is opened.
-/
import Derived.Test.YtgafcopihlmfpaaDoorTopL
import Derived.Test.YtgafcopihlmfpaaDoorRec
namespace Go.Proofs.YtgafcopihlmfpaaDoor
set_option linter.unusedVariables false
set_option linter.unusedSimpArgs false
open Go.ChangeShapes Go.WideShapes Go.ChangeAt Go.RowKit Go.Deep Go.Joins

theorem recR_at (us : List Value) (xs : List Rec) {i j : Nat} (hi : i < xs.length) (hj : j < 2) : (recR us xs).flatten[i * 2 + j]? = some ([us.getD i undef, Value.int .i64 (xs.getD i ([], 0)).2].getD j undef) := by
  have hl : i * 2 + j < (recR us xs).flatten.length := by
    rw [flat_len2 (recR_wf _ _), recR_len]
    omega
  have h := flat2_get (recR_wf us xs) (k := i) (d := j) (by rw [recR_len]; exact hi) hj
  rw [recR_get hi] at h
  rw [List.getElem?_eq_getElem hl]
  have h1 : (recR us xs).flatten.getD (i * 2 + j) undef = (recR us xs).flatten[i * 2 + j] := by
    rw [List.getD, List.getElem?_eq_getElem hl]
    rfl
  exact congrArg some (h1.symm.trans h)
theorem recs_of {P : Program} {w : World} {H : Type} {enc : TypeId × Value → H} {t e ti base : TypeId} {fs : Array Field} {f0 f1 : Field} (ht : P.underlying t = some (.slice e)) (he : P.underlying e = some (.struct fs)) (hone : oneCellFields P fs = true) (hC : P.cellsOf e = fs.size) (h2 : fs.size = 2) (hf0 : fs[0]? = some f0) (hf1 : fs[1]? = some f1)
    (hl : P.underlying f0.type = some (.slice ti)) (hi : P.underlying ti = some (.int .i64)) (hci : P.cellsOf ti = 1) (hk : P.underlying f1.type = some (.int .i64)) {v : Value} {d : DataW H} {p : List MemPlace} (hv : Value.okWide P w .any base t v) (h : DataW.Trod enc P w 0 (fun _ => true) true t v d p) :
    ∃ us xs, IsS v ∧ Recs w v us xs ∧ us.length = xs.length ∧ AllS us ∧ ∀ k, k < xs.length → Ints w (us.getD k undef) (xs.getD k ([], 0)).1 := by
  obtain ⟨a0, l0, c0, rfl⟩ := okWide_slice ht hv
  obtain ⟨fuel, hf⟩ := h
  obtain ⟨n, cs, hsl, hel⟩ := sl_of_trod ht he hone hC (by omega) hf
  rw [h2] at hsl hel
  have h0 : ∀ i, i < n → ∃ (u : Value) (r : Rec), cs[i * 2]? = some u ∧ cs[i * 2 + 1]? = some (.int .i64 r.2) ∧ Ints w u r.1 := by
    intro i hi'
    obtain ⟨u0, m0, y0, c0, d0⟩ := hel i hi' 0 f0 hf0
    obtain ⟨u1, m1, y1, c1, d1⟩ := hel i hi' 1 f1 hf1
    obtain ⟨xs, hI, _⟩ := ints_of_trod hl hi hci d0
    obtain ⟨k, e1, _⟩ := DataW.trod_int hk d1
    simp at e1
    subst e1
    exact ⟨u0, (xs, k), c0, c1, hI⟩
  obtain ⟨U, hU⟩ : ∃ U : Nat → Value × Rec, ∀ i, i < n → cs[i * 2]? = some (U i).1 ∧ cs[i * 2 + 1]? = some (.int .i64 (U i).2.2) ∧ Ints w (U i).1 (U i).2.1 := by
    refine ⟨fun i => if h : i < n then ⟨Classical.choose (h0 i h), Classical.choose (Classical.choose_spec (h0 i h))⟩ else ⟨undef, [], 0⟩, fun i hi' => ?_⟩
    simp only [hi', dite_true]
    exact Classical.choose_spec (Classical.choose_spec (h0 i hi'))
  have hus : ∀ i, i < n → ((List.range n).map fun i => (U i).1).getD i undef = (U i).1 := fun i hi' => by simp [List.getD, hi']
  have hxs : ∀ i, i < n → ((List.range n).map fun i => (U i).2).getD i ([], 0) = (U i).2 := fun i hi' => by simp [List.getD, hi']
  have hlen : ((List.range n).map fun i => (U i).2).length = n := by simp
  have hcs : cs = (recR ((List.range n).map fun i => (U i).1) ((List.range n).map fun i => (U i).2)).flatten := by
    refine List.ext_getElem? fun j => ?_
    by_cases hj : j < n * 2
    · have hq : j / 2 < n := by omega
      have hd := recR_at ((List.range n).map fun i => (U i).1) ((List.range n).map fun i => (U i).2) (i := j / 2) (j := j % 2) (by rw [hlen]; exact hq) (by omega)
      have ej : j / 2 * 2 + j % 2 = j := by omega
      rw [ej] at hd
      rw [hd, hus _ hq, hxs _ hq]
      have hh := hU (j / 2) hq
      rcases Nat.mod_two_eq_zero_or_one j with h | h
      · rw [h]
        have e2 : j / 2 * 2 = j := by omega
        rw [e2] at hh
        rw [hh.1]
        rfl
      · rw [h]
        have e2 : j / 2 * 2 + 1 = j := by omega
        rw [e2] at hh
        rw [hh.2.1]
        rfl
    · rw [List.getElem?_eq_none (by have := hsl.1; omega), List.getElem?_eq_none (by rw [flat_len2 (recR_wf _ _), recR_len, hlen]; omega)]
  refine ⟨(List.range n).map fun i => (U i).1, (List.range n).map fun i => (U i).2, ⟨_, _, _, rfl⟩, ?_, by simp, fun u hu => ?_, fun k hk' => ?_⟩
  · rw [hcs] at hsl
    rw [Recs, hlen]
    exact hsl
  · obtain ⟨i, hi', rfl⟩ := List.mem_map.1 hu
    exact isS_of (hU i (by simpa using hi')).2.2
  · rw [hlen] at hk'
    rw [hus k hk', hxs k hk']
    exact (hU k hk').2.2
theorem len_rec {w : World} {v : Value} {us : List Value} {xs : List Rec} (h : Recs w v us xs) : xs.length ≤ 9223372036854775807 := by
  have := Sl.size_le h
  simpa [maxLen] using this
theorem le_rec {w : World} {us : List Value} {xs : List Rec} (h : ∀ k, k < xs.length → Ints w (us.getD k undef) (xs.getD k ([], 0)).1) : ∀ r ∈ xs, r.1.length ≤ 9223372036854775807 := fun r hr => by
  obtain ⟨k, hk, rfl⟩ := List.mem_iff_getElem.1 hr
  have := len_of (h k hk)
  simpa [List.getD, hk] using this

end Go.Proofs.YtgafcopihlmfpaaDoor
