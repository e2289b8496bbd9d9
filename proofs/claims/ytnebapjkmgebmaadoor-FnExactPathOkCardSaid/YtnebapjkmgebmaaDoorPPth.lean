/-
  FnExactPathOk, as its card states it: for every input the law returns true and each argument reads as it did; the listed variables are tied to the text. No condition beside those of the row.
-/
import Derived.Test.YtnebapjkmgebmaaDoorTopR
import Derived.Test.YtnebapjkmgebmaaDoorWPth
namespace Go.Proofs.YtnebapjkmgebmaaDoor
set_option linter.unusedVariables false
set_option linter.unusedSimpArgs false
open Go.ChangeShapes Go.WideShapes Go.ChangeAt Go.RowKit Go.ChangeMaps
set_option maxRecDepth 100000 in
theorem pathOk_lifted (os : Os) (started : os.Started) (H : Type) (enc : TypeId × Value → H) :
    ReturnsInHanded {} Tryd.checked os 14 .any (fun w args => (Rows.fnExactPathOkSpec.pre enc Tryd.prog Tryd.f14 [] false w args ∧ laidMetH Tryd.prog Rows.fnExactPathOkRow.laid w) ∧ sizedMet enc Tryd.prog Tryd.f14 (OpenSpec.ofChange Rows.fnExactPathOkSpec) false w args) (Rows.fnExactPathOkSpec.post enc Tryd.prog Tryd.f14 false true false false) := by
  refine handed_shaped (C := Tryd.checked) (X := fun w => laidMetH Tryd.prog Rows.fnExactPathOkRow.laid w) Tryd.own started (by kernel_rfl) Tryd.func14
    (ChangeSpec.witness_shaped (enc := enc) (C := Tryd.checked) (os := os) (X := fun w _ => laidMetH Tryd.prog Rows.fnExactPathOkRow.laid w) false (World.laidAll Tryd.prog os Rows.fnExactPathOkRow.laid) #[.agg #[.int .i64 0, .slice none 0 0], .slice none 0 0] 8 (World.laidAll_os _ _ _)
      (World.shaped_of_ZipB (by kernel_rfl) (by kernel_rfl)) (by kernel_rfl) (by kernel_rfl) (by kernel_rfl)
      (by rw [MakeChecks.laidMetH_plain _ _ _ (by kernel_rfl)]; exact laidMet_laidAll _ (by kernel_rfl) (by kernel_rfl))) ?_
  intro W base args ds gs before hval0 hW hsh
  have hval : ∀ (j : Nat) t v, Tryd.f14.params[j]? = some t → args[j]? = some v → Value.okWide Tryd.prog W .any base t v := hval0
  have hW' := hW
  obtain ⟨p, q, hA0, hV, rfl, _, _⟩ := hW
  have hA : DataW.TrodAll enc Tryd.prog W 0 (fun _ => true) true Tryd.f14.params.toList args.toList ds p := hA0
  rw [Tryd.params14] at hA hval
  obtain ⟨v0, v1, d0, d1, p0, p1, rfl, rfl, rfl, h0, h1⟩ := trodAll_two hA
  obtain ⟨rfl, rfl⟩ := trodVars_none hV
  clear hA0 hval0
  simp only [List.append_nil] at hW'
  have hlt0 : ∀ x ∈ p0, x.block < W.heap.size := fun x hx => hW'.lt x (by simp [hx])
  have hlt1 : ∀ x ∈ p1, x.block < W.heap.size := fun x hx => hW'.lt x (by simp [hx])
  have hh0 := h0
  have hh1 := h1
  obtain ⟨a0k0, va0, a0, rfl, ia0, wa0⟩ := openCartan (hval 0 30 v0 rfl rfl) h0
  obtain ⟨ua1, a1, sa1, ia1, la1, ba1, ma1⟩ := recs_of Tryd.underlying51 Tryd.underlying77 (by kernel_rfl) (by kernel_rfl) rfl rfl rfl Tryd.underlying22 Tryd.underlying3 Tryd.cellsInt Tryd.underlying3 (hval 1 51 v1 rfl rfl) h1
  refine (((lawPathOk (isS_of ia0) (ent_ints ia0) sa1 (ent_sl ia1) (fun k hk => ent_ints (ma1 k hk)) la1 ba1 (len_of ia0) (len_rec ia1) (le_rec ma1) (ent_maxLen hsh)).top fun _ _ h => h.2).mono) fun e W' ⟨v, he, ⟨_, hv, _⟩, hb⟩ => ?_
  subst he hv
  refine ⟨_, rfl, _, _, _, [], p0 ++ p1, [], hW', trodAll_mk1 (shut_bool Tryd.underlying4 true), ?_, rfl, hb.frame _, fun h => by cases h⟩
  exact trodAll_mk2 (Below.trod Tryd.laidOut (by kernel_rfl) (of_decide_eq_true (by kernel_rfl)) hh0 hb hlt0) (Below.trod Tryd.laidOut (by kernel_rfl) (of_decide_eq_true (by kernel_rfl)) hh1 hb hlt1)
theorem pathOk_said : Rows.FnExactPathOkSaid :=
  OpenClaim.holds_of_wide 14 Tryd.f14 rfl rfl rfl rfl rfl rfl rfl ⟨rfl, rfl, rfl, rfl, rfl⟩ rfl rfl rfl rfl rfl (by kernel_rfl) Tryd.func14 (by kernel_rfl)
    (of_decide_eq_true (by kernel_rfl)) (by unfold Func.isWrapper; first | (rw [if_pos (by decide +kernel)]; kernel_rfl) | (rw [if_neg (by decide +kernel)]; exact ⟨rfl, rfl⟩))
    (fun os started H enc _ => pathOk_lifted os started H enc)
theorem pathOk_holds : Rows.FnExactPathOkCardSaid :=
  Claim7.holds_tied_plain_at .later [] [.data, .pinned] true (true, "5635ecef60ac4637a06b129ce40504028c020fdefd94da037ed58c2a321edecd") false pathOk_said (fun _ h => by cases h) (by kernel_rfl) (fun _ h => by cases h) fnExactPathOk_row_tie rfl ⟨rfl, rfl⟩ (by kernel_rfl) rfl
    (fun f fn hf hfn => by
      obtain rfl : f = 14 := Option.some.inj ((show Tryd.prog.funcNamed "loop.example/g03109/laws.FnExactPathOk" = some 14 by kernel_rfl).symm.trans hf) |>.symm
      obtain rfl : fn = Tryd.f14 := (Option.some.inj (Tryd.func14.symm.trans hfn)).symm
      exact ⟨by kernel_rfl, fun j t ht => by
        rw [Tryd.params14] at ht
        have hm : t ∈ [30, 51] := by simpa using Array.mem_of_getElem? ht
        have hall : ([30, 51].all fun u => !Tryd.prog.wantsStandIn u) = true := by kernel_rfl
        exact (show Tryd.prog.wantsStandIn t = false by simpa using List.all_eq_true.1 hall t hm)⟩)
    (by kernel_rfl)
#print axioms pathOk_holds
end Go.Proofs.YtnebapjkmgebmaaDoor
