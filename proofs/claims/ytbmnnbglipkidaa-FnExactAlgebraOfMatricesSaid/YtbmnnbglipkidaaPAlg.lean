/-
  FnExactAlgebraOfMatrices, as it is stated: for every input the law returns true and the argument reads as it did. No condition.
-/
import Derived.Test.YtbmnnbglipkidaaTopM
import Derived.Test.YtbmnnbglipkidaaWLAl
namespace Go.Proofs.Ytbmnnbglipkidaa
set_option linter.unusedVariables false
set_option linter.unusedSimpArgs false
open Go.ChangeShapes Go.WideShapes Go.ChangeAt Go.RowKit
set_option maxRecDepth 100000 in
theorem algebraOfMatrices_lifted (os : Os) (started : os.Started) (H : Type) (enc : TypeId × Value → H) :
    ReturnsInHanded {} Try.checked os 3 .any (Rows.fnExactAlgebraOfMatricesSpec.pre6 enc Try.prog Try.f3 Rows.fnExactAlgebraOfMatricesRow.domain false) (Rows.fnExactAlgebraOfMatricesSpec.post enc Try.prog Try.f3 false true false false) := by
  refine returnsInHanded_of_change (C := Try.checked) Try.own started (by kernel_rfl) Try.func3
    (ChangeSpec.witness6 (enc := enc) (C := Try.checked) false ⟨#[], #[.slice none 0 0], []⟩ 8 (by kernel_rfl) (by kernel_rfl) (by kernel_rfl) (by kernel_rfl)) ?_
  intro W base args ds gs before hval0 hW _ _
  have hval : ∀ (j : Nat) t v, Try.f3.params[j]? = some t → args[j]? = some v → Value.okWide Try.prog W .any base t v := hval0
  have hW' := hW
  obtain ⟨p, q, hA0, hV, rfl, _, _⟩ := hW
  have hA : DataW.TrodAll enc Try.prog W 0 (fun _ => true) true Try.f3.params.toList args.toList ds p := hA0
  rw [Try.params3] at hA hval
  obtain ⟨v0, d0, rfl, rfl, h0⟩ := trodAll_one hA
  obtain ⟨rfl, rfl⟩ := trodVars_none hV
  clear hA0 hval0
  simp only [List.append_nil] at hW'
  have hlt0 : ∀ x ∈ p, x.block < W.heap.size := fun x hx => hW'.lt x (by simp [hx])
  obtain ⟨ua0, ha0, a0, sa0, ia0, la0, ka0, ba0, ma0⟩ := hds_of Try.underlying22 Try.underlying38 (by kernel_rfl) (by kernel_rfl) rfl rfl rfl rfl rfl Try.underlying3 Try.underlying3 Try.underlying3 Try.underlying24 Try.underlying3 Try.cellsInt (hval 0 22 v0 rfl rfl) h0
  refine (((lawAlgebraOf sa0 (ent_sl ia0) (fun k hk => ent_ints (ma0 k hk)) la0 ka0 ba0 (len_hds ia0) (le_hds ma0)).top fun _ _ h => h.2).mono) fun e W' ⟨v, he, ⟨_, hv, _⟩, hb⟩ => ?_
  subst he hv
  refine ⟨_, rfl, _, _, _, [], p, [], hW', trodAll_mk1 (shut_bool Try.underlying4 true), ?_, rfl, hb.frame _, fun h => by cases h⟩
  exact trodAll_mk1 (Below.trod Try.laidOut (by kernel_rfl) (of_decide_eq_true (by kernel_rfl)) h0 hb hlt0)
theorem algebraOfMatrices_holds : Rows.FnExactAlgebraOfMatricesSaid :=
  OpenClaim.holds_of_wide 3 Try.f3 rfl rfl rfl rfl rfl rfl rfl ⟨rfl, rfl, rfl, rfl, rfl⟩ rfl rfl rfl rfl rfl (by kernel_rfl) Try.func3 (by kernel_rfl)
    (of_decide_eq_true (by kernel_rfl)) (by unfold Func.isWrapper; first | (rw [if_pos (by decide +kernel)]; kernel_rfl) | (rw [if_neg (by decide +kernel)]; exact ⟨rfl, rfl⟩))
    (fun os started H enc _ => algebraOfMatrices_lifted os started H enc)
#print axioms algebraOfMatrices_holds
end Go.Proofs.Ytbmnnbglipkidaa
