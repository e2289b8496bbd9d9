/-
  How an argument that is a slice of structs (of three whole numbers and a slice of whole numbers) is opened.
-/
import Derived.Test.YtbmnnbglipkidaaZ03
import Derived.Test.YtbmnnbglipkidaaHds
namespace Go.Proofs.Ytbmnnbglipkidaa
set_option linter.unusedVariables false
set_option linter.unusedSimpArgs false
open Go.ChangeShapes Go.WideShapes Go.ChangeAt Go.RowKit Go.Deep Go.Joins
theorem hdR_at? (us : List Value) (hs : List Hd) {i j : Nat} (hi : i < hs.length) (hj : j < 4) : (hdR us hs).flatten[i * 4 + j]? = some ((hdC (us.getD i undef) (hs.getD i hd0)).getD j undef) := by
  have hl : i * 4 + j < (hdR us hs).flatten.length := by
    rw [flat_len4 (hdR_wf _ _), hdR_len]
    omega
  have h := hdR_at (us := us) hi j hj
  rw [List.getElem?_eq_getElem hl]
  have h1 : (hdR us hs).flatten.getD (i * 4 + j) undef = (hdR us hs).flatten[i * 4 + j] := by
    rw [List.getD, List.getElem?_eq_getElem hl]
    rfl
  exact congrArg some (h1.symm.trans h)
theorem hds_of {P : Program} {w : World} {H : Type} {enc : TypeId × Value → H} {t e ti base : TypeId} {fs : Array Field} {f0 f1 f2 f3 : Field} (ht : P.underlying t = some (.slice e)) (he : P.underlying e = some (.struct fs)) (hone : oneCellFields P fs = true) (hC : P.cellsOf e = fs.size) (h4 : fs.size = 4) (hf0 : fs[0]? = some f0) (hf1 : fs[1]? = some f1) (hf2 : fs[2]? = some f2) (hf3 : fs[3]? = some f3)
    (hk0 : P.underlying f0.type = some (.int .i64)) (hk1 : P.underlying f1.type = some (.int .i64)) (hk2 : P.underlying f2.type = some (.int .i64)) (hl : P.underlying f3.type = some (.slice ti)) (hi : P.underlying ti = some (.int .i64)) (hci : P.cellsOf ti = 1) {v : Value} {d : DataW H} {p : List MemPlace} (hv : Value.okWide P w .any base t v) (h : DataW.Trod enc P w 0 (fun _ => true) true t v d p) :
    ∃ (us : List Value) (hs : List Hd) (ds : List (List Int)), IsS v ∧ Hds w v us hs ∧ us.length = hs.length ∧ ds.length = hs.length ∧ AllS us ∧ ∀ k, k < hs.length → Ints w (us.getD k undef) (ds.getD k []) := by
  obtain ⟨a0, l0, c0, rfl⟩ := okWide_slice ht hv
  obtain ⟨fuel, hf⟩ := h
  obtain ⟨n, cs, hsl, hel⟩ := sl_of_trod ht he hone hC (by omega) hf
  rw [h4] at hsl hel
  have h0 : ∀ i, i < n → ∃ (u : Value) (r : Hd) (x : List Int), cs[i * 4]? = some (.int .i64 r.1) ∧ cs[i * 4 + 1]? = some (.int .i64 r.2.1) ∧ cs[i * 4 + 2]? = some (.int .i64 r.2.2) ∧ cs[i * 4 + 3]? = some u ∧ Ints w u x := by
    intro i hi'
    obtain ⟨u0, m0, y0, c0, d0⟩ := hel i hi' 0 f0 hf0
    obtain ⟨u1, m1, y1, c1, d1⟩ := hel i hi' 1 f1 hf1
    obtain ⟨u2, m2, y2, c2, d2⟩ := hel i hi' 2 f2 hf2
    obtain ⟨u3, m3, y3, c3, d3⟩ := hel i hi' 3 f3 hf3
    obtain ⟨xs, hI, _⟩ := ints_of_trod hl hi hci d3
    obtain ⟨k0, e0, _⟩ := DataW.trod_int hk0 d0
    obtain ⟨k1, e1, _⟩ := DataW.trod_int hk1 d1
    obtain ⟨k2, e2, _⟩ := DataW.trod_int hk2 d2
    simp at e0 e1 e2
    subst e0 e1 e2
    exact ⟨u3, (k0, k1, k2), xs, c0, c1, c2, c3, hI⟩
  obtain ⟨U, hU⟩ : ∃ U : Nat → Value × Hd × List Int, ∀ i, i < n → cs[i * 4]? = some (.int .i64 (U i).2.1.1) ∧ cs[i * 4 + 1]? = some (.int .i64 (U i).2.1.2.1) ∧ cs[i * 4 + 2]? = some (.int .i64 (U i).2.1.2.2) ∧ cs[i * 4 + 3]? = some (U i).1 ∧ Ints w (U i).1 (U i).2.2 := by
    refine ⟨fun i => if h : i < n then ⟨Classical.choose (h0 i h), Classical.choose (Classical.choose_spec (h0 i h)), Classical.choose (Classical.choose_spec (Classical.choose_spec (h0 i h)))⟩ else ⟨undef, hd0, []⟩, fun i hi' => ?_⟩
    simp only [hi', dite_true]
    exact Classical.choose_spec (Classical.choose_spec (Classical.choose_spec (h0 i hi')))
  have hus : ∀ i, i < n → ((List.range n).map fun i => (U i).1).getD i undef = (U i).1 := fun i hi' => by simp [List.getD, hi']
  have hhs : ∀ i, i < n → ((List.range n).map fun i => (U i).2.1).getD i hd0 = (U i).2.1 := fun i hi' => by simp [List.getD, hi']
  have hds : ∀ i, i < n → ((List.range n).map fun i => (U i).2.2).getD i [] = (U i).2.2 := fun i hi' => by simp [List.getD, hi']
  have hlen : ((List.range n).map fun i => (U i).2.1).length = n := by simp
  have hcs : cs = (hdR ((List.range n).map fun i => (U i).1) ((List.range n).map fun i => (U i).2.1)).flatten := by
    refine List.ext_getElem? fun j => ?_
    by_cases hj : j < n * 4
    · have hq : j / 4 < n := by omega
      have hd := hdR_at? ((List.range n).map fun i => (U i).1) ((List.range n).map fun i => (U i).2.1) (i := j / 4) (j := j % 4) (by rw [hlen]; exact hq) (by omega)
      have ej : j / 4 * 4 + j % 4 = j := by omega
      rw [ej] at hd
      rw [hd, hus _ hq, hhs _ hq]
      obtain ⟨g0, g1, g2, g3, _⟩ := hU (j / 4) hq
      rcases (show j % 4 = 0 ∨ j % 4 = 1 ∨ j % 4 = 2 ∨ j % 4 = 3 by omega) with h | h | h | h
      · rw [show j / 4 * 4 = j by omega] at g0
        rw [h, g0]
        rfl
      · rw [show j / 4 * 4 + 1 = j by omega] at g1
        rw [h, g1]
        rfl
      · rw [show j / 4 * 4 + 2 = j by omega] at g2
        rw [h, g2]
        rfl
      · rw [show j / 4 * 4 + 3 = j by omega] at g3
        rw [h, g3]
        rfl
    · rw [List.getElem?_eq_none (by have := hsl.1; omega), List.getElem?_eq_none (by rw [flat_len4 (hdR_wf _ _), hdR_len, hlen]; omega)]
  refine ⟨(List.range n).map fun i => (U i).1, (List.range n).map fun i => (U i).2.1, (List.range n).map fun i => (U i).2.2, ⟨_, _, _, rfl⟩, ?_, by simp, by simp, fun u hu => ?_, fun k hk' => ?_⟩
  · rw [hcs] at hsl
    rw [Hds, hlen]
    exact hsl
  · obtain ⟨i, hi', rfl⟩ := List.mem_map.1 hu
    exact isS_of (hU i (by simpa using hi')).2.2.2.2
  · rw [hlen] at hk'
    rw [hus k hk', hds k hk']
    exact (hU k hk').2.2.2.2
theorem len_hds {w : World} {v : Value} {us : List Value} {hs : List Hd} (h : Hds w v us hs) : hs.length ≤ 9223372036854775807 := by
  have := Sl.size_le h
  simpa [maxLen] using this
theorem le_hds {w : World} {us : List Value} {hs : List Hd} {ds : List (List Int)} (h : ∀ k, k < hs.length → Ints w (us.getD k undef) (ds.getD k [])) : ∀ k, k < hs.length → (ds.getD k []).length ≤ 9223372036854775807 := fun k hk => len_of (h k hk)
end Go.Proofs.Ytbmnnbglipkidaa
