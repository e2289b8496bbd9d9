/-
  The law on CartanOf.
-/
import Derived.Test.YtnebapjkmgebmaaDoorWHelp
namespace Go.Proofs.YtnebapjkmgebmaaDoor
set_option linter.unusedVariables false
set_option linter.unusedSimpArgs false
open Go.RowKit

theorem ent15 : ∀ us w, (callFunc 15 us).run Tryd.prog w = .ok (.enter 15 us) w := fun us w => by kernel_rfl
theorem ent16 : ∀ us w, (callFunc 16 us).run Tryd.prog w = .ok (.enter 16 us) w := fun us w => by kernel_rfl
theorem ent17 : ∀ us w, (callFunc 17 us).run Tryd.prog w = .ok (.enter 17 us) w := fun us w => by kernel_rfl
theorem ent18 : ∀ us w, (callFunc 18 us).run Tryd.prog w = .ok (.enter 18 us) w := fun us w => by kernel_rfl
theorem ent19 : ∀ us w, (callFunc 19 us).run Tryd.prog w = .ok (.enter 19 us) w := fun us w => by kernel_rfl
theorem bt4 : BT Tryd.prog 4 := ⟨fun a b w => by cases a <;> cases b <;> kernel_rfl, fun a b w => by cases a <;> cases b <;> kernel_rfl⟩

set_option maxHeartbeats 4000000 in
set_option maxRecDepth 100000 in
theorem lawCartanOf {W : World} {own : List Asn} {s : ByteArray}   (hg : Ent own fun w => ∃ m, w.cell? ⟨Tryd.l146_ren.g 1, 0, none⟩ = some (.int .i64 m)) : Spec Tryd.prog 3 [.string (s)] W own (fun v ow => v = .bool (true) ∧ ow = own) := by
 have hcl := cD_len s
 refine Spec.enter Tryd.f3 _ Tryd.func3 rfl (n := 66) rfl rfl ?_
 refine GC.seq (GC.region ?_)
 refine G.stepD (OD.assign rfl rfl) rfl rfl rfl ?_
 refine G.nil (GE.then_ (GC.seq (GC.seq (GC.region ?_))))
 refine G.stepD (OD.move rfl rfl) rfl rfl rfl ?_
 refine G.stepD (OD.lenStr rfl rfl st9 rfl) rfl rfl rfl ?_
 refine G.stepD (OD.gtr rfl rfl rfl) rfl rfl rfl ?_
 refine G.nil (GE.then_ ?_)
 refine GC.cond rfl (fun hc1 => ?_) (fun hc1 => ?_)
 replace hc1 := of_decide_eq_true hc1
 refine GC.seq (GC.region ?_)
 refine G.stepD (OD.assign rfl rfl) rfl rfl rfl ?_
 refine G.nil (GE.then_ (GC.ret (GE.passR ?_)))
 exact GE.body [] 0 (res1 rfl rfl) rfl (⟨rfl, rfl⟩)
 replace hc1 := of_decide_eq_false hc1
 refine GC.skip (GE.then_ (GC.seq (GC.region ?_)))
 refine G.stepD (OD.move rfl rfl) rfl rfl rfl ?_
 refine G.step (OG.call [.string (s)] ent15 rfl rfl rfl rfl (by exact (specCartanOf_w (by omega)))) rfl rfl rfl ?_
 rintro _ _ ⟨v2, rfl, hs3, rfl⟩
 refine G.stepD (OD.move rfl rfl) rfl rfl rfl ?_
 refine G.stepD (OD.extract rfl rfl rfl) rfl rfl rfl ?_
 refine G.stepD (OD.extract rfl rfl rfl) rfl rfl rfl ?_
 refine G.step (OG.alloc rfl ti24 (zs := [.int .i64 (0), .slice none 0 0]) rfl) rfl rfl rfl ?_
 rintro _ _ ⟨g4, rfl, rfl⟩
 refine G.stepD0 (OD.store rfl ti24 rfl rfl (us := [.int .i64 (cR s), v2]) rfl rfl (allC rfl (allC (IsS.one hs3) rfl)) (i := 0) rfl rfl) rfl rfl ?_
 refine G.stepD (OD.assign rfl rfl) rfl rfl rfl ?_
 refine G.nil (GE.then_ (GC.seq (GC.region ?_)))
 refine G.stepD (OD.move rfl rfl) rfl rfl rfl ?_
 refine G.step (OG.call [.string (s)] ent16 rfl rfl rfl rfl (by exact (cartanOf_w ((Ent.drop 2 hg)) (by omega)))) rfl rfl rfl ?_
 rintro _ _ ⟨v5, rfl, hs6, rfl⟩
 refine G.stepD (OD.move rfl rfl) rfl rfl rfl ?_
 refine G.stepD (OD.extract rfl rfl rfl) rfl rfl rfl ?_
 refine G.stepD (OD.extract rfl rfl rfl) rfl rfl rfl ?_
 refine G.step (OG.alloc rfl ti24 (zs := [.int .i64 (0), .slice none 0 0]) rfl) rfl rfl rfl ?_
 rintro _ _ ⟨g7, rfl, rfl⟩
 refine G.stepD0 (OD.store rfl ti24 rfl rfl (us := [.int .i64 (cR s), v5]) rfl rfl (allC rfl (allC (IsS.one hs6) rfl)) (i := 0) rfl rfl) rfl rfl ?_
 refine G.stepD (OD.assign rfl rfl) rfl rfl rfl ?_
 refine G.nil (GE.then_ (GC.seq (GC.seq (GC.region ?_))))
 refine G.stepD (OD.loadAgg rfl ti24 rfl (i := 0) rfl (us := [.int .i64 (cR s), v5]) rfl rfl) rfl rfl rfl ?_
 refine G.stepD (OD.loadAgg rfl ti24 rfl (i := 2) rfl (us := [.int .i64 (cR s), v2]) rfl rfl) rfl rfl rfl ?_
 refine G.step (OG.call [.agg #[.int .i64 (cR s), v5], .agg #[.int .i64 (cR s), v2]] ent17 rfl rfl rfl rfl (by exact (eqCartan_same hs6 (Ent.ints (i := 1) rfl) hs3 (Ent.ints (i := 3) rfl) (by omega)))) rfl rfl rfl ?_
 rintro _ _ ⟨rfl, rfl⟩
 refine G.stepD (OD.not rfl rfl) rfl rfl rfl ?_
 refine G.stepD (OD.move rfl rfl) rfl rfl rfl ?_
 refine G.stepGD (OD.move rfl rfl) rfl rfl rfl rfl rfl ?_
 refine G.stepGD (OD.move rfl rfl) rfl rfl rfl rfl rfl ?_
 refine G.stepGD (OD.eqv (OD.neqB bt4 rfl rfl rfl) (congrArg Value.bool (bneB_same _))) rfl rfl rfl rfl rfl ?_
 refine G.stepD (OD.pickF rfl rfl rfl) rfl rfl rfl ?_
 refine G.nil (GE.then_ (GC.condF rfl (GC.skip (GE.then_ (GC.seq (GC.region ?_))))))
 refine G.stepD (OD.assign rfl rfl) rfl rfl rfl ?_
 refine G.nil (GE.then_ (GC.seq (GC.region ?_)))
 refine G.stepD (OD.loadAgg rfl ti24 rfl (i := 0) rfl (us := [.int .i64 (cR s), v5]) rfl rfl) rfl rfl rfl ?_
 refine G.stepD (OD.move rfl rfl) rfl rfl rfl ?_
 refine G.at [1] 0 (env' := [(0, .string (s)), (2, .bool false), (11, .string (s)), (12, .int .i64 ((s.size : Nat))), (13, .bool (decide ((1048576 : Int) < (s.size : Nat)))), (15, .string (s)), (16, .tuple #[.agg #[.int .i64 (cR s), v2], .bool ((cF s).isSome)]), (14, .tuple #[.agg #[.int .i64 (cR s), v2], .bool ((cF s).isSome)]), (17, .agg #[.int .i64 (cR s), v2]), (18, .bool ((cF s).isSome)), (3, .pointer (some ⟨g4, 0, none⟩)), (4, .bool ((cF s).isSome)), (20, .string (s)), (21, .tuple #[.agg #[.int .i64 (cR s), v5], .bool ((cF s).isSome)]), (19, .tuple #[.agg #[.int .i64 (cR s), v5], .bool ((cF s).isSome)]), (22, .agg #[.int .i64 (cR s), v5]), (23, .bool ((cF s).isSome)), (5, .pointer (some ⟨g7, 0, none⟩)), (6, .bool ((cF s).isSome)), (24, .agg #[.int .i64 (cR s), v5]), (25, .agg #[.int .i64 (cR s), v2]), (26, .bool true), (27, .bool false), (28, .bool false), (29, .bool ((cF s).isSome)), (30, .bool ((cF s).isSome)), (31, .bool false), (32, .bool false), (7, .int .i64 (1)), (33, .agg #[.int .i64 (cR s), v5]), (34, .int .i64 (1))]) ⟨rfl, rfl, rfl, rfl, rfl, rfl, rfl, rfl, rfl, rfl, rfl, rfl, rfl, rfl, rfl, rfl, rfl, rfl, rfl, rfl, rfl, rfl, rfl, rfl, rfl, rfl, rfl, rfl, rfl, rfl, rfl, trivial⟩ (own' := ints 3 v5 (cD s) :: box g7 24 [.int .i64 (cR s), v5] :: box g4 24 [.int .i64 (cR s), v2] :: ints 3 v2 (cD s) :: own) rfl ?_
 refine G.step (OG.call [.agg #[.int .i64 (cR s), v5], .int .i64 (1)] ent18 rfl rfl rfl rfl (by exact (markCartan_s hs6 (by omega) (by omega)))) rfl rfl rfl ?_
 rintro _ _ ⟨rfl, rfl⟩
 refine G.stepD (OD.assign rfl rfl) rfl rfl rfl ?_
 refine G.nil (GE.then_ (GC.seq (GC.region ?_)))
 refine G.stepD (OD.assign rfl rfl) rfl rfl rfl ?_
 refine G.nil (GE.then_ (GC.seq (GC.region ?_)))
 refine G.stepD (OD.loadAgg rfl ti24 rfl (i := 1) rfl (us := [.int .i64 (cR s), v5]) rfl rfl) rfl rfl rfl ?_
 refine G.stepD (OD.move rfl rfl) rfl rfl rfl ?_
 refine G.step (OG.call [.agg #[.int .i64 (cR s), v5], .int .i64 (1)] ent19 rfl rfl rfl rfl (by exact (heldCartan_m hs6 (Ent.ints (i := 0) rfl) (by omega) (by omega)))) rfl rfl rfl ?_
 rintro _ _ ⟨rfl, rfl⟩
 refine G.stepD (OD.assign rfl rfl) rfl rfl rfl ?_
 refine G.nil (GE.then_ (GC.seq (GC.seq (GC.region ?_))))
 refine G.stepD (OD.move rfl rfl) rfl rfl rfl ?_
 refine G.stepD (OD.eqv (OD.lss rfl rfl rfl) (congrArg Value.bool ((decide_eq_false (by omega)) : _ = false))) rfl rfl rfl ?_
 refine G.nil (GE.then_ (GC.condF rfl (GC.skip (GE.then_ (GC.seq (GC.seq (GC.region ?_)))))))
 refine G.stepD (OD.move rfl rfl) rfl rfl rfl ?_
 refine G.stepD (OD.move rfl rfl) rfl rfl rfl ?_
 refine G.stepD (OD.eqv (OD.neq rfl rfl rfl) (congrArg Value.bool ((bne_same _) : _ = false))) rfl rfl rfl ?_
 refine G.nil (GE.then_ (GC.condF rfl (GC.skip (GE.then_ (GC.seq (GC.region ?_))))))
 refine G.stepD (OD.move rfl rfl) rfl rfl rfl ?_
 refine G.step (OG.call [.string (s)] ent16 rfl rfl rfl rfl (by exact (cartanOf_w ((Ent.drop 4 hg)) (by omega)))) rfl rfl rfl ?_
 rintro _ _ ⟨v8, rfl, hs9, rfl⟩
 refine G.stepD (OD.move rfl rfl) rfl rfl rfl ?_
 refine G.stepD (OD.extract rfl rfl rfl) rfl rfl rfl ?_
 refine G.stepD (OD.extract rfl rfl rfl) rfl rfl rfl ?_
 refine G.step (OG.alloc rfl ti24 (zs := [.int .i64 (0), .slice none 0 0]) rfl) rfl rfl rfl ?_
 rintro _ _ ⟨g10, rfl, rfl⟩
 refine G.stepD0 (OD.store rfl ti24 rfl rfl (us := [.int .i64 (cR s), v8]) rfl rfl (allC rfl (allC (IsS.one hs9) rfl)) (i := 0) rfl rfl) rfl rfl ?_
 refine G.stepD (OD.assign rfl rfl) rfl rfl rfl ?_
 refine G.nil (GE.then_ (GC.seq (GC.seq (GC.region ?_))))
 refine G.stepD (OD.loadAgg rfl ti24 rfl (i := 0) rfl (us := [.int .i64 (cR s), v8]) rfl rfl) rfl rfl rfl ?_
 refine G.stepD (OD.loadAgg rfl ti24 rfl (i := 4) rfl (us := [.int .i64 (cR s), v2]) rfl rfl) rfl rfl rfl ?_
 refine G.step (OG.call [.agg #[.int .i64 (cR s), v8], .agg #[.int .i64 (cR s), v2]] ent17 rfl rfl rfl rfl (by exact (eqCartan_same hs9 (Ent.ints (i := 1) rfl) hs3 (Ent.ints (i := 5) rfl) (by omega)))) rfl rfl rfl ?_
 rintro _ _ ⟨rfl, rfl⟩
 refine G.stepD (OD.not rfl rfl) rfl rfl rfl ?_
 refine G.stepD (OD.move rfl rfl) rfl rfl rfl ?_
 refine G.stepGD (OD.move rfl rfl) rfl rfl rfl rfl rfl ?_
 refine G.stepGD (OD.move rfl rfl) rfl rfl rfl rfl rfl ?_
 refine G.stepGD (OD.eqv (OD.neqB bt4 rfl rfl rfl) (congrArg Value.bool (bneB_same _))) rfl rfl rfl rfl rfl ?_
 refine G.stepD (OD.pickF rfl rfl rfl) rfl rfl rfl ?_
 refine G.nil (GE.then_ (GC.condF rfl (GC.skip (GE.then_ (GC.seq (GC.region ?_))))))
 refine G.stepD (OD.assign rfl rfl) rfl rfl rfl ?_
 refine G.nil (GE.then_ (GC.seq (GC.region ?_)))
 refine G.stepD (OD.loadAgg rfl ti24 rfl (i := 3) rfl (us := [.int .i64 (cR s), v5]) rfl rfl) rfl rfl rfl ?_
 refine G.stepD (OD.move rfl rfl) rfl rfl rfl ?_
 refine G.step (OG.call [.agg #[.int .i64 (cR s), v5], .int .i64 (1)] ent19 rfl rfl rfl rfl (by exact (heldCartan_m hs6 (Ent.ints (i := 2) rfl) (by omega) (by omega)))) rfl rfl rfl ?_
 rintro _ _ ⟨rfl, rfl⟩
 refine G.stepD (OD.assign rfl rfl) rfl rfl rfl ?_
 refine G.nil (GE.then_ (GC.seq (GC.seq (GC.region ?_))))
 refine G.stepD (OD.move rfl rfl) rfl rfl rfl ?_
 refine G.stepD (OD.eqv (OD.lss rfl rfl rfl) (congrArg Value.bool ((decide_eq_false (by omega)) : _ = false))) rfl rfl rfl ?_
 refine G.nil (GE.then_ (GC.condF rfl (GC.skip (GE.then_ (GC.seq (GC.seq (GC.region ?_)))))))
 refine G.stepD (OD.move rfl rfl) rfl rfl rfl ?_
 refine G.stepD (OD.move rfl rfl) rfl rfl rfl ?_
 refine G.stepD (OD.eqv (OD.neq rfl rfl rfl) (congrArg Value.bool ((bne_same _) : _ = false))) rfl rfl rfl ?_
 refine G.nil (GE.then_ (GC.condF rfl (GC.skip (GE.then_ (GC.seq (GC.region ?_))))))
 refine G.stepD (OD.assign rfl rfl) rfl rfl rfl ?_
 refine G.nil (GE.then_ (GC.ret ?_))
 exact GE.body [] 6 (res1 rfl rfl) rfl (⟨rfl, rfl⟩)

end Go.Proofs.YtnebapjkmgebmaaDoor
