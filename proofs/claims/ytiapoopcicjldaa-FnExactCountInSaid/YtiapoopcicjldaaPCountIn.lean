/-
  FnExactCountIn, as it is stated: for every input the law returns true and each argument reads as it did. No condition.
-/
import Derived.Test.YtiapoopcicjldaaOpen
import Derived.Test.YtiapoopcicjldaaLCountIn
namespace Go.Proofs.Ytiapoopcicjldaa
open Go.ChangeShapes Go.WideShapes Go.ChangeAt Go.RowKit

theorem Try.cells3 : Try.prog.cellsOf 3 = 1 := by kernel_rfl
theorem Try.cells68 : Try.prog.cellsOf 68 = 2 := by kernel_rfl

theorem tms_of_trod {H : Type} {enc : TypeId × Value → H} {w : World} {fuel : Nat} {v : Value} {x : DataW H × List MemPlace}
    (h : DataW.trod enc Try.prog w 0 (fun _ => true) true fuel 22 [v] = some x) : ∃ ts, Tms w v ts := by
  obtain ⟨fs, hfs⟩ : ∃ fs, Try.prog.underlying 68 = some (.struct fs) := ⟨_, Try.underlying68⟩
  have hfs' : some (TypeDesc.struct fs) = some (TypeDesc.struct _) := hfs.symm.trans Try.underlying68
  obtain ⟨rfl⟩ := hfs'
  obtain ⟨n, cs, hsl, hel⟩ := sl_of_trod Try.underlying22 Try.underlying68 (by kernel_rfl) Try.cells68 (by decide) h
  have h0 : ∀ i, i < n → ∃ t : Tm, ∃ dv, cs[i * 2]? = some dv ∧ cs[i * 2 + 1]? = some (.int .i64 t.k) ∧ Ints w dv t.w := by
    intro i hi
    obtain ⟨u0, m0, y0, c0, d0⟩ := hel i hi 0 _ rfl
    obtain ⟨u1, m1, y1, c1, d1⟩ := hel i hi 1 _ rfl
    obtain ⟨xs, hI, _⟩ := ints_of_trod Try.underlying23 Try.underlying3 Try.cells3 d0
    obtain ⟨k, e1, _⟩ := DataW.trod_int Try.underlying3 d1
    simp at e1
    subst e1
    exact ⟨⟨xs, k⟩, u0, c0, c1, hI⟩
  obtain ⟨T, hT⟩ : ∃ T : Nat → Tm, ∀ i, i < n → ∃ dv, cs[i * 2]? = some dv ∧ cs[i * 2 + 1]? = some (.int .i64 (T i).k) ∧ Ints w dv (T i).w := by
    refine ⟨fun i => if h : i < n then Classical.choose (h0 i h) else ⟨[], 0⟩, fun i hi => ?_⟩
    simp only [hi, dite_true]
    exact Classical.choose_spec (h0 i hi)
  refine ⟨(List.range n).map T, cs, by simpa using hsl, fun i hi => ?_⟩
  simp only [List.length_map, List.length_range] at hi
  simpa [List.getD, hi] using hT i hi

set_option maxRecDepth 100000 in
theorem countIn_lifted (os : Os) (started : os.Started) (H : Type) (enc : TypeId × Value → H) :
    ReturnsInHanded {} Try.checked os 3 .any (Rows.fnExactCountInSpec.pre6 enc Try.prog Try.f3 Rows.fnExactCountInRow.domain false) (Rows.fnExactCountInSpec.post enc Try.prog Try.f3 false true false false) := by
  refine returnsInHanded_of_change (C := Try.checked) Try.own started (by kernel_rfl) Try.func3
    (ChangeSpec.witness6 (enc := enc) (C := Try.checked) false ⟨#[], #[.slice none 0 0, .slice none 0 0], []⟩ 8 (by kernel_rfl) (by kernel_rfl) (by kernel_rfl) (by kernel_rfl)) ?_
  intro W base args ds gs before hval0 hW _ _
  have hval : ∀ (j : Nat) t v, Try.f3.params[j]? = some t → args[j]? = some v → Value.okWide Try.prog W .any base t v := hval0
  have hW' := hW
  obtain ⟨p, q, hA0, hV, rfl, _, _⟩ := hW
  have hA : DataW.TrodAll enc Try.prog W 0 (fun _ => true) true Try.f3.params.toList args.toList ds p := hA0
  rw [Try.params3] at hA hval
  obtain ⟨v0, v1, d0, d1, p0, p1, rfl, rfl, rfl, h0, h1⟩ := trodAll_two hA
  obtain ⟨rfl, rfl⟩ := trodVars_none hV
  clear hA0 hval0
  simp only [List.append_nil] at hW'
  have hlt0 : ∀ x ∈ p0, x.block < W.heap.size := fun x hx => hW'.lt x (by simp [hx])
  have hlt1 : ∀ x ∈ p1, x.block < W.heap.size := fun x hx => hW'.lt x (by simp [hx])
  obtain ⟨a0, l0, c0, rfl⟩ := okWide_slice Try.underlying22 (hval 0 22 v0 rfl rfl)
  obtain ⟨a1, l1, c1, rfl⟩ := okWide_slice Try.underlying23 (hval 1 23 v1 rfl rfl)
  obtain ⟨ts, hts⟩ : ∃ ts, Tms W (.slice a0 l0 c0) ts := by
    obtain ⟨fuel, hf⟩ := h0
    exact tms_of_trod hf
  obtain ⟨xs, hxs⟩ : ∃ xs, Ints W (.slice a1 l1 c1) xs := by
    obtain ⟨fuel, hf⟩ := h1
    obtain ⟨xs, hx, _⟩ := ints_of_trod Try.underlying23 Try.underlying3 Try.cells3 hf
    exact ⟨xs, hx⟩
  refine (lawCountIn_any _ _ ts xs W hts hxs).mono fun e W' ⟨he, hb⟩ => ?_
  subst he
  refine ⟨_, rfl, _, _, _, [], p0 ++ p1, [], hW', trodAll_mk1 (shut_bool Try.underlying4 true), ?_, rfl, hb.frame _, fun h => by cases h⟩
  exact trodAll_mk2 (Below.trod Try.laidOut (by kernel_rfl) (of_decide_eq_true (by kernel_rfl)) h0 hb hlt0) (Below.trod Try.laidOut (by kernel_rfl) (of_decide_eq_true (by kernel_rfl)) h1 hb hlt1)

theorem countIn_holds : Rows.FnExactCountInSaid :=
  OpenClaim.holds_of_wide 3 Try.f3 rfl rfl rfl rfl rfl rfl rfl ⟨rfl, rfl, rfl, rfl, rfl⟩ rfl rfl rfl rfl rfl (by kernel_rfl) Try.func3 (by kernel_rfl)
    (of_decide_eq_true (by kernel_rfl)) (by unfold Func.isWrapper; first | (rw [if_pos (by decide +kernel)]; kernel_rfl) | (rw [if_neg (by decide +kernel)]; exact ⟨rfl, rfl⟩))
    (fun os started H enc _ => countIn_lifted os started H enc)

#print axioms countIn_holds
end Go.Proofs.Ytiapoopcicjldaa
