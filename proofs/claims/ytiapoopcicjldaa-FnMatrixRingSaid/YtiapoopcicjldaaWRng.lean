/-
  Products, sums, traces and transposed matrices of matrices that are in order: contracts by walks.
-/
import Derived.Test.YtiapoopcicjldaaWDrw
namespace Go.Proofs.Ytiapoopcicjldaa
set_option linter.unusedVariables false
set_option linter.unusedSimpArgs false
open Go.RowKit

theorem ent56 : ∀ us w, (callFunc 56 us).run Try.prog w = .ok (.enter 56 us) w := fun us w => by kernel_rfl

set_option maxRecDepth 100000 in
theorem mulMatrices_ok {W : World} {own : List Asn} {ap : Int} {ar : Int} {ac : Int} {vad : Value} {ad : List Int} {bp : Int} {br : Int} {bc : Int} {vbd : Value} {bd : List Int}  (sad : IsS vad) (ead : Ent own fun w => Ints w vad ad)   (sbd : IsS vbd) (ebd : Ent own fun w => Ints w vbd bd)  (h1 : matOkB ⟨ap, ar, ac, ad⟩ = true) (h2 : matOkB ⟨bp, br, bc, bd⟩ = true) (h3 : ap = bp) (h4 : ac = br) : Spec Try.prog 19 [.agg #[.int .i64 (ap), .int .i64 (ar), .int .i64 (ac), vad], .agg #[.int .i64 (bp), .int .i64 (br), .int .i64 (bc), vbd]] W own (fun v ow => ∃ (r3 : Value), v = .tuple #[.agg #[.int .i64 (ap), .int .i64 (ar), .int .i64 (bc), r3], .bool (true)] ∧ IsS r3 ∧ ow = ints 3 r3 (mulF ap ar ac bc ad bd) :: own) := by
 obtain ⟨hr, hc, hal, hap⟩ := matOk_dim h1
 have hg1 := matOk_rg h1
 simp only at hr hc hal hap hg1
 obtain ⟨hr2, hc2, hbl, hbp⟩ := matOk_dim h2
 have hg2 := matOk_rg h2
 simp only at hr2 hc2 hbl hbp hg2
 refine Spec.enter Try.f19 _ Try.func19 rfl (n := 32) rfl rfl ?_
 refine GC.seq (GC.region ?_)
 refine G.step (OG.box (cs := [.int .i64 (ap), .int .i64 (ar), .int .i64 (ac), vad]) rfl rfl rfl) rfl rfl rfl ?_
 rintro _ _ ⟨g1, rfl, rfl⟩
 refine G.step (OG.box (cs := [.int .i64 (bp), .int .i64 (br), .int .i64 (bc), vbd]) rfl rfl rfl) rfl rfl rfl ?_
 rintro _ _ ⟨g2, rfl, rfl⟩
 refine G.step (OG.alloc rfl ti35 (zs := [.int .i64 (0), .int .i64 (0), .int .i64 (0), .slice none 0 0]) rfl) rfl rfl rfl ?_
 rintro _ _ ⟨g3, rfl, rfl⟩
 refine G.stepD (OD.assign rfl rfl) rfl rfl rfl ?_
 refine G.nil (GE.then_ (GC.seq (GC.seq (GC.region ?_))))
 refine G.stepD (OD.loadAgg rfl ti35 rfl (i := 2) rfl (us := [.int .i64 (ap), .int .i64 (ar), .int .i64 (ac), vad]) rfl rfl) rfl rfl rfl ?_
 refine G.step (OG.imp (K' := fun v ow => v = .bool true ∧ ow = box g3 35 [.int .i64 (0), .int .i64 (0), .int .i64 (0), .slice none 0 0] :: box g2 35 [.int .i64 (bp), .int .i64 (br), .int .i64 (bc), vbd] :: box g1 35 [.int .i64 (ap), .int .i64 (ar), .int .i64 (ac), vad] :: own) (OG.call [.agg #[.int .i64 (ap), .int .i64 (ar), .int .i64 (ac), vad]] ent54 rfl rfl rfl rfl (by exact (matrixOk_s sad (Ent.drop 3 ead)))) (by rintro _ _ ⟨rfl, rfl⟩; exact ⟨congrArg Value.bool (h1), rfl⟩)) rfl rfl rfl ?_
 rintro _ _ ⟨rfl, rfl⟩
 refine G.stepD (OD.not rfl rfl) rfl rfl rfl ?_
 refine G.stepD (OD.move rfl rfl) rfl rfl rfl ?_
 refine G.stepGD (OD.loadAgg rfl ti35 rfl (i := 1) rfl (us := [.int .i64 (bp), .int .i64 (br), .int .i64 (bc), vbd]) rfl rfl) rfl rfl rfl rfl rfl ?_
 refine G.stepG (OG.imp (K' := fun v ow => v = .bool true ∧ ow = box g3 35 [.int .i64 (0), .int .i64 (0), .int .i64 (0), .slice none 0 0] :: box g2 35 [.int .i64 (bp), .int .i64 (br), .int .i64 (bc), vbd] :: box g1 35 [.int .i64 (ap), .int .i64 (ar), .int .i64 (ac), vad] :: own) (OG.call [.agg #[.int .i64 (bp), .int .i64 (br), .int .i64 (bc), vbd]] ent54 rfl rfl rfl rfl (by exact (matrixOk_s sbd (Ent.drop 3 ebd)))) (by rintro _ _ ⟨rfl, rfl⟩; exact ⟨congrArg Value.bool (h2), rfl⟩)) rfl rfl rfl rfl rfl ?_
 rintro _ _ ⟨rfl, rfl⟩
 refine G.stepGD (OD.not rfl rfl) rfl rfl rfl rfl rfl ?_
 refine G.stepD (OD.pickF rfl rfl rfl) rfl rfl rfl ?_
 refine G.stepD (OD.move rfl rfl) rfl rfl rfl ?_
 refine G.stepGD (OD.fieldAddr rfl rfl fa35_0) rfl rfl rfl rfl rfl ?_
 refine G.stepGD (OD.load rfl ti3 rfl (i := 2) rfl rfl) rfl rfl rfl rfl rfl ?_
 refine G.stepGD (OD.fieldAddr rfl rfl fa35_0) rfl rfl rfl rfl rfl ?_
 refine G.stepGD (OD.load rfl ti3 rfl (i := 1) rfl rfl) rfl rfl rfl rfl rfl ?_
 refine G.stepGD (OD.eqv (OD.neq rfl rfl rfl) (congrArg Value.bool ((bneF (by omega)) : _ = false))) rfl rfl rfl rfl rfl ?_
 refine G.stepD (OD.pickF rfl rfl rfl) rfl rfl rfl ?_
 refine G.stepD (OD.move rfl rfl) rfl rfl rfl ?_
 refine G.stepGD (OD.fieldAddr rfl rfl fa35_2) rfl rfl rfl rfl rfl ?_
 refine G.stepGD (OD.load rfl ti3 rfl (i := 2) rfl rfl) rfl rfl rfl rfl rfl ?_
 refine G.stepGD (OD.fieldAddr rfl rfl fa35_1) rfl rfl rfl rfl rfl ?_
 refine G.stepGD (OD.load rfl ti3 rfl (i := 1) rfl rfl) rfl rfl rfl rfl rfl ?_
 refine G.stepGD (OD.eqv (OD.neq rfl rfl rfl) (congrArg Value.bool ((bneF (by omega)) : _ = false))) rfl rfl rfl rfl rfl ?_
 refine G.stepD (OD.pickF rfl rfl rfl) rfl rfl rfl ?_
 refine G.nil (GE.then_ (GC.condF rfl (GC.skip (GE.then_ (GC.seq (GC.region ?_))))))
 refine G.stepD (OD.loadAgg rfl ti35 rfl (i := 2) rfl (us := [.int .i64 (ap), .int .i64 (ar), .int .i64 (ac), vad]) rfl rfl) rfl rfl rfl ?_
 refine G.stepD (OD.loadAgg rfl ti35 rfl (i := 1) rfl (us := [.int .i64 (bp), .int .i64 (br), .int .i64 (bc), vbd]) rfl rfl) rfl rfl rfl ?_
 refine G.step (OG.call [.agg #[.int .i64 (ap), .int .i64 (ar), .int .i64 (ac), vad], .agg #[.int .i64 (bp), .int .i64 (br), .int .i64 (bc), vbd]] ent55 rfl rfl rfl rfl (by exact (times_w sad (Ent.drop 3 ead) sbd (Ent.drop 3 ebd) (hr) (hc) (hc2) (hal) (by rw [hbl, h4]) (hap)))) rfl rfl rfl ?_
 rintro _ _ ⟨v4, rfl, hs5, rfl⟩
 refine G.stepD0 (OD.store rfl ti35 rfl rfl (us := [.int .i64 (ap), .int .i64 (ar), .int .i64 (bc), v4]) rfl rfl (allC rfl (allC rfl (allC rfl (allC (IsS.one hs5) rfl)))) (i := 1) rfl rfl) rfl rfl ?_
 refine G.stepD (OD.assign rfl rfl) rfl rfl rfl ?_
 refine G.nil (GE.then_ (GC.ret ?_))
 exact GE.body [0] 3 (resN rfl (RVs.cons (rv_cells ti35 rfl (i := 1) rfl rfl) (RVs.cons (rv_tmp rfl) RVs.nil)) rfl) rfl (⟨v4, rfl, hs5, rfl⟩)

set_option maxRecDepth 100000 in
theorem addMatrices_ok {W : World} {own : List Asn} {ap : Int} {ar : Int} {ac : Int} {vad : Value} {ad : List Int} {bp : Int} {br : Int} {bc : Int} {vbd : Value} {bd : List Int}  (sad : IsS vad) (ead : Ent own fun w => Ints w vad ad)   (sbd : IsS vbd) (ebd : Ent own fun w => Ints w vbd bd)  (h1 : matOkB ⟨ap, ar, ac, ad⟩ = true) (h2 : matOkB ⟨bp, br, bc, bd⟩ = true) (h3 : ap = bp) (h4 : ar = br) (h5 : ac = bc) : Spec Try.prog 21 [.agg #[.int .i64 (ap), .int .i64 (ar), .int .i64 (ac), vad], .agg #[.int .i64 (bp), .int .i64 (br), .int .i64 (bc), vbd]] W own (fun v ow => ∃ (r3 : Value), v = .tuple #[.agg #[.int .i64 (ap), .int .i64 (ar), .int .i64 (ac), r3], .bool (true)] ∧ IsS r3 ∧ ow = ints 3 r3 (addF 1 ap ad bd) :: own) := by
 obtain ⟨hr, hc, hal, hap⟩ := matOk_dim h1
 have hg1 := matOk_rg h1
 simp only at hr hc hal hap hg1
 obtain ⟨hr2, hc2, hbl, hbp⟩ := matOk_dim h2
 have hg2 := matOk_rg h2
 simp only at hr2 hc2 hbl hbp hg2
 have hm1 := mulBd (A := 40) (B := 40) hr hc
 have hm2 := mulBd (A := 40) (B := 40) hr2 hc2
 have hmm : ar * ac = br * bc := by rw [h4, h5]
 refine Spec.enter Try.f21 _ Try.func21 rfl (n := 39) rfl rfl ?_
 refine GC.seq (GC.region ?_)
 refine G.step (OG.box (cs := [.int .i64 (ap), .int .i64 (ar), .int .i64 (ac), vad]) rfl rfl rfl) rfl rfl rfl ?_
 rintro _ _ ⟨g1, rfl, rfl⟩
 refine G.step (OG.box (cs := [.int .i64 (bp), .int .i64 (br), .int .i64 (bc), vbd]) rfl rfl rfl) rfl rfl rfl ?_
 rintro _ _ ⟨g2, rfl, rfl⟩
 refine G.step (OG.alloc rfl ti35 (zs := [.int .i64 (0), .int .i64 (0), .int .i64 (0), .slice none 0 0]) rfl) rfl rfl rfl ?_
 rintro _ _ ⟨g3, rfl, rfl⟩
 refine G.stepD (OD.assign rfl rfl) rfl rfl rfl ?_
 refine G.nil (GE.then_ (GC.seq (GC.seq (GC.region ?_))))
 refine G.stepD (OD.loadAgg rfl ti35 rfl (i := 2) rfl (us := [.int .i64 (ap), .int .i64 (ar), .int .i64 (ac), vad]) rfl rfl) rfl rfl rfl ?_
 refine G.step (OG.imp (K' := fun v ow => v = .bool true ∧ ow = box g3 35 [.int .i64 (0), .int .i64 (0), .int .i64 (0), .slice none 0 0] :: box g2 35 [.int .i64 (bp), .int .i64 (br), .int .i64 (bc), vbd] :: box g1 35 [.int .i64 (ap), .int .i64 (ar), .int .i64 (ac), vad] :: own) (OG.call [.agg #[.int .i64 (ap), .int .i64 (ar), .int .i64 (ac), vad]] ent54 rfl rfl rfl rfl (by exact (matrixOk_s sad (Ent.drop 3 ead)))) (by rintro _ _ ⟨rfl, rfl⟩; exact ⟨congrArg Value.bool (h1), rfl⟩)) rfl rfl rfl ?_
 rintro _ _ ⟨rfl, rfl⟩
 refine G.stepD (OD.not rfl rfl) rfl rfl rfl ?_
 refine G.stepD (OD.move rfl rfl) rfl rfl rfl ?_
 refine G.stepGD (OD.loadAgg rfl ti35 rfl (i := 1) rfl (us := [.int .i64 (bp), .int .i64 (br), .int .i64 (bc), vbd]) rfl rfl) rfl rfl rfl rfl rfl ?_
 refine G.stepG (OG.imp (K' := fun v ow => v = .bool true ∧ ow = box g3 35 [.int .i64 (0), .int .i64 (0), .int .i64 (0), .slice none 0 0] :: box g2 35 [.int .i64 (bp), .int .i64 (br), .int .i64 (bc), vbd] :: box g1 35 [.int .i64 (ap), .int .i64 (ar), .int .i64 (ac), vad] :: own) (OG.call [.agg #[.int .i64 (bp), .int .i64 (br), .int .i64 (bc), vbd]] ent54 rfl rfl rfl rfl (by exact (matrixOk_s sbd (Ent.drop 3 ebd)))) (by rintro _ _ ⟨rfl, rfl⟩; exact ⟨congrArg Value.bool (h2), rfl⟩)) rfl rfl rfl rfl rfl ?_
 rintro _ _ ⟨rfl, rfl⟩
 refine G.stepGD (OD.not rfl rfl) rfl rfl rfl rfl rfl ?_
 refine G.stepD (OD.pickF rfl rfl rfl) rfl rfl rfl ?_
 refine G.stepD (OD.move rfl rfl) rfl rfl rfl ?_
 refine G.stepGD (OD.fieldAddr rfl rfl fa35_0) rfl rfl rfl rfl rfl ?_
 refine G.stepGD (OD.load rfl ti3 rfl (i := 2) rfl rfl) rfl rfl rfl rfl rfl ?_
 refine G.stepGD (OD.fieldAddr rfl rfl fa35_0) rfl rfl rfl rfl rfl ?_
 refine G.stepGD (OD.load rfl ti3 rfl (i := 1) rfl rfl) rfl rfl rfl rfl rfl ?_
 refine G.stepGD (OD.eqv (OD.neq rfl rfl rfl) (congrArg Value.bool ((bneF (by omega)) : _ = false))) rfl rfl rfl rfl rfl ?_
 refine G.stepD (OD.pickF rfl rfl rfl) rfl rfl rfl ?_
 refine G.stepD (OD.move rfl rfl) rfl rfl rfl ?_
 refine G.stepGD (OD.fieldAddr rfl rfl fa35_1) rfl rfl rfl rfl rfl ?_
 refine G.stepGD (OD.load rfl ti3 rfl (i := 2) rfl rfl) rfl rfl rfl rfl rfl ?_
 refine G.stepGD (OD.fieldAddr rfl rfl fa35_1) rfl rfl rfl rfl rfl ?_
 refine G.stepGD (OD.load rfl ti3 rfl (i := 1) rfl rfl) rfl rfl rfl rfl rfl ?_
 refine G.stepGD (OD.eqv (OD.neq rfl rfl rfl) (congrArg Value.bool ((bneF (by omega)) : _ = false))) rfl rfl rfl rfl rfl ?_
 refine G.stepD (OD.pickF rfl rfl rfl) rfl rfl rfl ?_
 refine G.stepD (OD.move rfl rfl) rfl rfl rfl ?_
 refine G.stepGD (OD.fieldAddr rfl rfl fa35_2) rfl rfl rfl rfl rfl ?_
 refine G.stepGD (OD.load rfl ti3 rfl (i := 2) rfl rfl) rfl rfl rfl rfl rfl ?_
 refine G.stepGD (OD.fieldAddr rfl rfl fa35_2) rfl rfl rfl rfl rfl ?_
 refine G.stepGD (OD.load rfl ti3 rfl (i := 1) rfl rfl) rfl rfl rfl rfl rfl ?_
 refine G.stepGD (OD.eqv (OD.neq rfl rfl rfl) (congrArg Value.bool ((bneF (by omega)) : _ = false))) rfl rfl rfl rfl rfl ?_
 refine G.stepD (OD.pickF rfl rfl rfl) rfl rfl rfl ?_
 refine G.nil (GE.then_ (GC.condF rfl (GC.skip (GE.then_ (GC.seq (GC.region ?_))))))
 refine G.stepD (OD.loadAgg rfl ti35 rfl (i := 2) rfl (us := [.int .i64 (ap), .int .i64 (ar), .int .i64 (ac), vad]) rfl rfl) rfl rfl rfl ?_
 refine G.stepD (OD.loadAgg rfl ti35 rfl (i := 1) rfl (us := [.int .i64 (bp), .int .i64 (br), .int .i64 (bc), vbd]) rfl rfl) rfl rfl rfl ?_
 refine G.step (OG.call [.agg #[.int .i64 (ap), .int .i64 (ar), .int .i64 (ac), vad], .int .i64 (1), .agg #[.int .i64 (bp), .int .i64 (br), .int .i64 (bc), vbd]] ent57 rfl rfl rfl rfl (by exact (plus_s sad (Ent.drop 3 ead) sbd (Ent.drop 3 ebd) (small_of hap (by omega) hg1) (small_of hbp (by omega) hg2) (by omega) (by omega)))) rfl rfl rfl ?_
 rintro _ _ ⟨v4, rfl, hs5, rfl⟩
 refine G.stepD0 (OD.store rfl ti35 rfl rfl (us := [.int .i64 (ap), .int .i64 (ar), .int .i64 (ac), v4]) rfl rfl (allC rfl (allC rfl (allC rfl (allC (IsS.one hs5) rfl)))) (i := 1) rfl rfl) rfl rfl ?_
 refine G.stepD (OD.assign rfl rfl) rfl rfl rfl ?_
 refine G.nil (GE.then_ (GC.ret ?_))
 exact GE.body [0] 3 (resN rfl (RVs.cons (rv_cells ti35 rfl (i := 1) rfl rfl) (RVs.cons (rv_tmp rfl) RVs.nil)) rfl) rfl (⟨v4, rfl, hs5, rfl⟩)

set_option maxRecDepth 100000 in
theorem traceOf_ok {W : World} {own : List Asn} {ap : Int} {ar : Int} {ac : Int} {vad : Value} {ad : List Int}  (sad : IsS vad) (ead : Ent own fun w => Ints w vad ad)  (h1 : matOkB ⟨ap, ar, ac, ad⟩ = true) (h4 : ar = ac) : Spec Try.prog 22 [.agg #[.int .i64 (ap), .int .i64 (ar), .int .i64 (ac), vad]] W own (fun v ow => v = .tuple #[.int .i64 (trI ap ac ad), .bool (true)] ∧ ow = own) := by
 obtain ⟨hr, hc, hal, hap⟩ := matOk_dim h1
 have hg1 := matOk_rg h1
 simp only at hr hc hal hap hg1
 have hm1 := mulBd (A := 40) (B := 40) hr hc
 refine Spec.enter Try.f22 _ Try.func22 rfl (n := 38) rfl rfl ?_
 refine GC.seq (GC.region ?_)
 refine G.step (OG.box (cs := [.int .i64 (ap), .int .i64 (ar), .int .i64 (ac), vad]) rfl rfl rfl) rfl rfl rfl ?_
 rintro _ _ ⟨g1, rfl, rfl⟩
 refine G.stepD (OD.assign rfl rfl) rfl rfl rfl ?_
 refine G.stepD (OD.assign rfl rfl) rfl rfl rfl ?_
 refine G.nil (GE.then_ (GC.seq (GC.seq (GC.region ?_))))
 refine G.stepD (OD.loadAgg rfl ti35 rfl (i := 0) rfl (us := [.int .i64 (ap), .int .i64 (ar), .int .i64 (ac), vad]) rfl rfl) rfl rfl rfl ?_
 refine G.step (OG.imp (K' := fun v ow => v = .bool true ∧ ow = box g1 35 [.int .i64 (ap), .int .i64 (ar), .int .i64 (ac), vad] :: own) (OG.call [.agg #[.int .i64 (ap), .int .i64 (ar), .int .i64 (ac), vad]] ent54 rfl rfl rfl rfl (by exact (matrixOk_s sad (Ent.drop 1 ead)))) (by rintro _ _ ⟨rfl, rfl⟩; exact ⟨congrArg Value.bool (h1), rfl⟩)) rfl rfl rfl ?_
 rintro _ _ ⟨rfl, rfl⟩
 refine G.stepD (OD.not rfl rfl) rfl rfl rfl ?_
 refine G.stepD (OD.move rfl rfl) rfl rfl rfl ?_
 refine G.stepGD (OD.fieldAddr rfl rfl fa35_1) rfl rfl rfl rfl rfl ?_
 refine G.stepGD (OD.load rfl ti3 rfl (i := 0) rfl rfl) rfl rfl rfl rfl rfl ?_
 refine G.stepGD (OD.fieldAddr rfl rfl fa35_2) rfl rfl rfl rfl rfl ?_
 refine G.stepGD (OD.load rfl ti3 rfl (i := 0) rfl rfl) rfl rfl rfl rfl rfl ?_
 refine G.stepGD (OD.eqv (OD.neq rfl rfl rfl) (congrArg Value.bool ((bneF (by omega)) : _ = false))) rfl rfl rfl rfl rfl ?_
 refine G.stepD (OD.pickF rfl rfl rfl) rfl rfl rfl ?_
 refine G.nil (GE.then_ (GC.condF rfl (GC.skip (GE.then_ (GC.seq (GC.region ?_))))))
 refine G.stepD (OD.assign rfl rfl) rfl rfl rfl ?_
 refine G.nil (GE.then_ (GC.seq (GC.seq (GC.region ?_))))
 refine G.stepD (OD.fieldAddr rfl rfl fa35_1) rfl rfl rfl ?_
 refine G.stepD (OD.load rfl ti3 rfl (i := 0) rfl rfl) rfl rfl rfl ?_
 refine G.stepD (OD.move rfl rfl) rfl rfl rfl ?_
 refine G.nil (GE.then_ (GC.block ?_))
 refine GC.loop (ι := Nat × Int) (fun ⟨i, s⟩ => [(1, .pointer (some ⟨g1, 0, none⟩)), (17, .int .i64 (ar)), (4, .int .i64 (s)), (18, .int .i64 ((i : Int)))]) (fun ⟨i, s⟩ => box g1 35 [.int .i64 (ap), .int .i64 (ar), .int .i64 (ac), vad] :: own) (fun ⟨i, s⟩ => ((i : Int) ≤ ar) ∧ (s = trS ac ad i)) (fun ⟨i, s⟩ => ar.toNat - i) (0, 0) (⟨by omega, rfl⟩) ⟨rfl, rfl, rfl, rfl, trivial⟩ [] 0 rfl ?_
 rintro ⟨i, s⟩ ⟨hi, hs⟩
 have hsb := trS_bd (n := ac) (i := i) hap.2 hg1
 rw [← hs] at hsb
 refine GC.seq (GC.region ?_)
 refine G.stepD (OD.lss rfl rfl rfl) rfl rfl rfl ?_
 refine G.nil (GE.then_ (GC.seq ?_))
 refine GC.cond rfl (fun hc2 => ?_) (fun hc2 => ?_)
 replace hc2 := of_decide_eq_true hc2
 obtain ⟨hq1, hq2, hq3⟩ := part_bd (n := ar) (c := ac) (i := i) (by omega) (by omega)
 have hge := hg1 ((i : Int) * ac + (i : Int)).toNat
 refine GC.skip (GE.then_ (GC.seq (GC.block (GC.seq (GC.region ?_)))))
 refine G.stepD (OD.move rfl rfl) rfl rfl rfl ?_
 refine G.stepD (OD.assign rfl rfl) rfl rfl rfl ?_
 refine G.nil (GE.then_ (GC.region ?_))
 refine G.stepD (OD.move rfl rfl) rfl rfl rfl ?_
 refine G.stepD (OD.fieldAddr rfl rfl fa35_3) rfl rfl rfl ?_
 refine G.stepD (OD.load rfl ti23 rfl (i := 0) rfl rfl) rfl rfl rfl ?_
 refine G.stepD (OD.move rfl rfl) rfl rfl rfl ?_
 refine G.stepD (OD.fieldAddr rfl rfl fa35_2) rfl rfl rfl ?_
 refine G.stepD (OD.load rfl ti3 rfl (i := 0) rfl rfl) rfl rfl rfl ?_
 refine G.stepD (OD.mulI rfl rfl rfl (by omega)) rfl rfl rfl ?_
 refine G.stepD (OD.move rfl rfl) rfl rfl rfl ?_
 refine G.stepD (OD.addI rfl rfl rfl (by omega)) rfl rfl rfl ?_
 refine G.stepD (OD.indexAddr rfl et23 rfl (Ent.drop 1 ead) rfl (by omega)) rfl rfl rfl ?_
 refine G.stepD (OD.loadInt rfl ti3 rfl (Ent.drop 1 ead) (by omega)) rfl rfl rfl ?_
 refine G.stepD (OD.addI rfl rfl rfl (by omega)) rfl rfl rfl ?_
 refine G.stepD (OD.assign rfl rfl) rfl rfl rfl ?_
 refine G.nil (GE.blockN (GE.then_ (GC.region ?_)))
 refine G.stepD (OD.addI rfl rfl rfl (by omega)) rfl rfl rfl ?_
 refine G.stepD (OD.move rfl rfl) rfl rfl rfl ?_
 refine G.nil ?_
 exact GE.again (i + 1, (s + (ad.getD ((((i : Int) * ac) + (i : Int) : Int).toNat) 0))) (⟨by omega, by rw [hs]; rfl⟩) (by first | omega | (dsimp only; omega)) ⟨rfl, rfl, rfl, rfl, trivial⟩ [] 0 rfl
 replace hc2 := of_decide_eq_false hc2
 refine GC.exit (GE.pass (GE.pass (GE.hit (GE.then_ (GC.seq (GC.region ?_))))))
 refine G.stepD (OD.move rfl rfl) rfl rfl rfl ?_
 refine G.stepD (OD.fieldAddr rfl rfl fa35_0) rfl rfl rfl ?_
 refine G.stepD (OD.load rfl ti3 rfl (i := 0) rfl rfl) rfl rfl rfl ?_
 refine G.stepD (OD.rem rfl rfl rfl (by omega)) rfl rfl rfl ?_
 refine G.stepD (OD.assign rfl rfl) rfl rfl rfl ?_
 refine G.stepD (OD.assign rfl rfl) rfl rfl rfl ?_
 refine G.nil (GE.then_ (GC.ret ?_))
 exact GE.body [] 1 (res2 rfl rfl rfl) rfl (⟨cong2 (fun (a0 : Int) (a1 : Bool) => (.tuple #[.int .i64 (a0), .bool (a1)] : Value)) ((by rw [hs, show i = ac.toNat by omega]; exact trS_end hap.2 hg1 : ((s).tmod ap : Int) = trI ap ac ad)) (rfl), rfl⟩)

set_option maxRecDepth 100000 in
theorem transpose_ok {W : World} {own : List Asn} {ap : Int} {ar : Int} {ac : Int} {vad : Value} {ad : List Int}  (sad : IsS vad) (ead : Ent own fun w => Ints w vad ad)  (h1 : matOkB ⟨ap, ar, ac, ad⟩ = true) : Spec Try.prog 23 [.agg #[.int .i64 (ap), .int .i64 (ar), .int .i64 (ac), vad]] W own (fun v ow => ∃ (r3 : Value), v = .agg #[.int .i64 (ap), .int .i64 (ac), .int .i64 (ar), r3] ∧ IsS r3 ∧ ow = ints 3 r3 (tpI ar ac ad) :: own) := by
 obtain ⟨hr, hc, hal, hap⟩ := matOk_dim h1
 have hg1 := matOk_rg h1
 simp only at hr hc hal hap hg1
 have h3 := matOk_three h1
 simp only at h3
 have hm1 := mulBd (A := 40) (B := 40) hc hr
 have hm2 := mulBd (A := 40) (B := 40) hr hc
 have hcm : ar * ac = ac * ar := Int.mul_comm ..
 refine Spec.enter Try.f23 _ Try.func23 rfl (n := 49) rfl rfl ?_
 refine GC.seq (GC.region ?_)
 refine G.step (OG.box (cs := [.int .i64 (ap), .int .i64 (ar), .int .i64 (ac), vad]) rfl rfl rfl) rfl rfl rfl ?_
 rintro _ _ ⟨g1, rfl, rfl⟩
 refine G.step (OG.alloc rfl ti35 (zs := [.int .i64 (0), .int .i64 (0), .int .i64 (0), .slice none 0 0]) rfl) rfl rfl rfl ?_
 rintro _ _ ⟨g2, rfl, rfl⟩
 refine G.nil (GE.then_ (GC.seq (GC.seq (GC.region ?_))))
 refine G.stepD (OD.loadAgg rfl ti35 rfl (i := 1) rfl (us := [.int .i64 (ap), .int .i64 (ar), .int .i64 (ac), vad]) rfl rfl) rfl rfl rfl ?_
 refine G.step (OG.imp (K' := fun v ow => v = .bool true ∧ ow = box g2 35 [.int .i64 (0), .int .i64 (0), .int .i64 (0), .slice none 0 0] :: box g1 35 [.int .i64 (ap), .int .i64 (ar), .int .i64 (ac), vad] :: own) (OG.call [.agg #[.int .i64 (ap), .int .i64 (ar), .int .i64 (ac), vad]] ent54 rfl rfl rfl rfl (by exact (matrixOk_s sad (Ent.drop 2 ead)))) (by rintro _ _ ⟨rfl, rfl⟩; exact ⟨congrArg Value.bool (h1), rfl⟩)) rfl rfl rfl ?_
 rintro _ _ ⟨rfl, rfl⟩
 refine G.stepD (OD.not rfl rfl) rfl rfl rfl ?_
 refine G.nil (GE.then_ (GC.condF rfl (GC.skip (GE.then_ (GC.seq (GC.region ?_))))))
 refine G.stepD (OD.fieldAddr rfl rfl fa35_0) rfl rfl rfl ?_
 refine G.stepD (OD.load rfl ti3 rfl (i := 1) rfl rfl) rfl rfl rfl ?_
 refine G.stepD (OD.fieldAddr rfl rfl fa35_2) rfl rfl rfl ?_
 refine G.stepD (OD.load rfl ti3 rfl (i := 1) rfl rfl) rfl rfl rfl ?_
 refine G.stepD (OD.fieldAddr rfl rfl fa35_1) rfl rfl rfl ?_
 refine G.stepD (OD.load rfl ti3 rfl (i := 1) rfl rfl) rfl rfl rfl ?_
 refine G.step (OG.call [.int .i64 (ap), .int .i64 (ac), .int .i64 (ar)] ent58 rfl rfl rfl rfl (by exact (zeroMatrix_ok (h3.1) (h3.2.2) (h3.2.1)))) rfl rfl rfl ?_
 rintro _ _ ⟨v3, rfl, hs4, rfl⟩
 refine G.step (OG.alloc rfl ti35 (zs := [.int .i64 (0), .int .i64 (0), .int .i64 (0), .slice none 0 0]) rfl) rfl rfl rfl ?_
 rintro _ _ ⟨g5, rfl, rfl⟩
 refine G.stepD0 (OD.store rfl ti35 rfl rfl (us := [.int .i64 (ap), .int .i64 (ac), .int .i64 (ar), v3]) rfl rfl (allC rfl (allC rfl (allC rfl (allC (IsS.one hs4) rfl)))) (i := 0) rfl rfl) rfl rfl ?_
 refine G.nil (GE.then_ (GC.seq (GC.seq (GC.region ?_))))
 refine G.stepD (OD.fieldAddr rfl rfl fa35_1) rfl rfl rfl ?_
 refine G.stepD (OD.load rfl ti3 rfl (i := 3) rfl rfl) rfl rfl rfl ?_
 refine G.stepD (OD.move rfl rfl) rfl rfl rfl ?_
 refine G.nil (GE.then_ (GC.block ?_))
 refine GC.loop (ι := Nat × List Int) (fun ⟨i, ys⟩ => [(1, .pointer (some ⟨g1, 0, none⟩)), (2, .pointer (some ⟨g2, 0, none⟩)), (3, .pointer (some ⟨g5, 0, none⟩)), (18, .int .i64 (ar)), (19, .int .i64 ((i : Int)))]) (fun ⟨i, ys⟩ => box g5 35 [.int .i64 (ap), .int .i64 (ac), .int .i64 (ar), v3] :: ints 3 v3 ys :: box g2 35 [.int .i64 (0), .int .i64 (0), .int .i64 (0), .slice none 0 0] :: box g1 35 [.int .i64 (ap), .int .i64 (ar), .int .i64 (ac), vad] :: own) (fun ⟨i, ys⟩ => ((i : Int) ≤ ar) ∧ (ys.length = (ac * ar).toNat) ∧ (ys = (List.range i).foldl (tpG ar ac ad) (List.replicate (ac * ar).toNat 0))) (fun ⟨i, ys⟩ => ar.toNat - i) (0, (List.replicate (ac * ar).toNat 0)) (⟨by omega, by simp, rfl⟩) ⟨rfl, rfl, rfl, rfl, rfl, trivial⟩ [] 0 rfl ?_
 rintro ⟨i, ys⟩ ⟨hi, hyl, hy⟩
 refine GC.seq (GC.region ?_)
 refine G.stepD (OD.lss rfl rfl rfl) rfl rfl rfl ?_
 refine G.nil (GE.then_ (GC.seq ?_))
 refine GC.cond rfl (fun hc6 => ?_) (fun hc6 => ?_)
 replace hc6 := of_decide_eq_true hc6
 obtain ⟨hq1, hq2, hq3⟩ := part_bd (n := ar) (c := ac) (i := i) (by omega) (by omega)
 refine GC.skip (GE.then_ (GC.seq (GC.block (GC.seq (GC.region ?_)))))
 refine G.stepD (OD.move rfl rfl) rfl rfl rfl ?_
 refine G.stepD (OD.assign rfl rfl) rfl rfl rfl ?_
 refine G.nil (GE.then_ (GC.seq (GC.region ?_)))
 refine G.stepD (OD.fieldAddr rfl rfl fa35_2) rfl rfl rfl ?_
 refine G.stepD (OD.load rfl ti3 rfl (i := 3) rfl rfl) rfl rfl rfl ?_
 refine G.stepD (OD.move rfl rfl) rfl rfl rfl ?_
 refine G.nil (GE.then_ (GC.block ?_))
 refine GC.loop (ι := Nat × List Int) (fun ⟨k, zs⟩ => [(1, .pointer (some ⟨g1, 0, none⟩)), (2, .pointer (some ⟨g2, 0, none⟩)), (3, .pointer (some ⟨g5, 0, none⟩)), (18, .int .i64 (ar)), (19, .int .i64 ((i : Int))), (4, .int .i64 ((i : Int))), (23, .int .i64 (ac)), (24, .int .i64 ((k : Int)))]) (fun ⟨k, zs⟩ => box g5 35 [.int .i64 (ap), .int .i64 (ac), .int .i64 (ar), v3] :: ints 3 v3 zs :: box g2 35 [.int .i64 (0), .int .i64 (0), .int .i64 (0), .slice none 0 0] :: box g1 35 [.int .i64 (ap), .int .i64 (ar), .int .i64 (ac), vad] :: own) (fun ⟨k, zs⟩ => ((k : Int) ≤ ac) ∧ (zs.length = (ac * ar).toNat) ∧ (zs = (List.range k).foldl (tpR ar ac ad i) ys)) (fun ⟨k, zs⟩ => ac.toNat - k) (0, ys) (⟨by omega, hyl, rfl⟩) ⟨rfl, rfl, rfl, rfl, rfl, rfl, rfl, rfl, trivial⟩ [] 0 rfl ?_
 rintro ⟨k, zs⟩ ⟨hk, hzl, hz⟩
 refine GC.seq (GC.region ?_)
 refine G.stepD (OD.lss rfl rfl rfl) rfl rfl rfl ?_
 refine G.nil (GE.then_ (GC.seq ?_))
 refine GC.cond rfl (fun hc7 => ?_) (fun hc7 => ?_)
 replace hc7 := of_decide_eq_true hc7
 obtain ⟨hr1, hr2, hr3⟩ := part_bd (n := ac) (c := ar) (i := k) (by omega) (by omega)
 refine GC.skip (GE.then_ (GC.seq (GC.block (GC.seq (GC.region ?_)))))
 refine G.stepD (OD.move rfl rfl) rfl rfl rfl ?_
 refine G.stepD (OD.assign rfl rfl) rfl rfl rfl ?_
 refine G.nil (GE.then_ ?_)
 refine GC.at [] 0 (env' := [(1, .pointer (some ⟨g1, 0, none⟩)), (2, .pointer (some ⟨g2, 0, none⟩)), (3, .pointer (some ⟨g5, 0, none⟩)), (18, .int .i64 (ar)), (19, .int .i64 ((i : Int))), (4, .int .i64 ((i : Int))), (23, .int .i64 (ac)), (24, .int .i64 ((k : Int))), (5, .int .i64 ((k : Int)))]) ⟨rfl, rfl, rfl, rfl, rfl, rfl, rfl, rfl, rfl, trivial⟩ rfl ?_
 refine GC.par (its := [⟨27, [], [], [], [], fun _ => .pointer (some ⟨g5, 3, none⟩), fun _ => True, fun _ => []⟩,
     ⟨28, [(0, 27)], [], [], [], fun _ => v3, fun _ => True, fun _ => []⟩,
     ⟨29, [], [], [], [], fun _ => .int .i64 ((k : Int)), fun _ => True, fun _ => []⟩,
     ⟨30, [], [], [], [], fun _ => .pointer (some ⟨g1, 1, none⟩), fun _ => True, fun _ => []⟩,
     ⟨31, [(3, 30)], [], [], [], fun _ => .int .i64 (ar), fun _ => True, fun _ => []⟩,
     ⟨32, [(2, 29), (4, 31)], [], [], [], fun _ => .int .i64 ((k : Int) * ar), fun _ => True, fun _ => []⟩,
     ⟨33, [], [], [], [], fun _ => .int .i64 ((i : Int)), fun _ => True, fun _ => []⟩,
     ⟨34, [(5, 32), (6, 33)], [], [], [], fun _ => .int .i64 (((k : Int) * ar) + (i : Int)), fun _ => True, fun _ => []⟩,
     ⟨35, [], [], [], [], fun _ => .pointer (some ⟨g1, 3, none⟩), fun _ => True, fun _ => []⟩,
     ⟨36, [(8, 35)], [], [], [], fun _ => vad, fun _ => True, fun _ => []⟩,
     ⟨37, [], [], [], [], fun _ => .int .i64 ((i : Int)), fun _ => True, fun _ => []⟩,
     ⟨38, [], [], [], [], fun _ => .pointer (some ⟨g1, 2, none⟩), fun _ => True, fun _ => []⟩,
     ⟨39, [(11, 38)], [], [], [], fun _ => .int .i64 (ac), fun _ => True, fun _ => []⟩,
     ⟨40, [(10, 37), (12, 39)], [], [], [], fun _ => .int .i64 ((i : Int) * ac), fun _ => True, fun _ => []⟩,
     ⟨41, [], [], [], [], fun _ => .int .i64 ((k : Int)), fun _ => True, fun _ => []⟩,
     ⟨42, [(13, 40), (14, 41)], [], [], [], fun _ => .int .i64 (((i : Int) * ac) + (k : Int)), fun _ => True, fun _ => []⟩,
     ⟨43, [(9, 36), (15, 42)], [], [], [], fun _ => elemPtr vad 1 ((((i : Int) * ac) + (k : Int) : Int).toNat), fun _ => True, fun _ => []⟩,
     ⟨44, [(16, 43)], [], [], [], fun _ => .int .i64 (ad.getD ((((i : Int) * ac) + (k : Int) : Int).toNat) 0), fun _ => True, fun _ => []⟩,
     ⟨45, [(1, 28), (7, 34)], [], [], [], fun _ => elemPtr v3 1 ((((k : Int) * ar) + (i : Int) : Int).toNat), fun _ => True, fun _ => []⟩]) (by kernel_rfl) (by kernel_rfl) (POps.cons ?_ (POps.cons ?_ (POps.cons ?_ (POps.cons ?_ (POps.cons ?_ (POps.cons ?_ (POps.cons ?_ (POps.cons ?_ (POps.cons ?_ (POps.cons ?_ (POps.cons ?_ (POps.cons ?_ (POps.cons ?_ (POps.cons ?_ (POps.cons ?_ (POps.cons ?_ (POps.cons ?_ (POps.cons ?_ (POps.cons ?_ POps.nil))))))))))))))))))) ?_
 intro θ R hd
 exact Opp.plain (OG.imp (OD.fieldAddr rfl rfl fa35_3) (by rintro _ _ ⟨rfl, rfl⟩; exact ⟨[], rfl, trivial, rfl⟩)) rfl
 intro θ R hd
 obtain ⟨h0d, _⟩ := hd
 exact Opp.plain (OG.imp (OD.load rfl ti23 rfl (i := 0) rfl rfl) (by rintro _ _ ⟨rfl, rfl⟩; exact ⟨[], rfl, trivial, rfl⟩)) rfl
 intro θ R hd
 exact Opp.plain (OG.imp (OD.move rfl rfl) (by rintro _ _ ⟨rfl, rfl⟩; exact ⟨[], rfl, trivial, rfl⟩)) rfl
 intro θ R hd
 exact Opp.plain (OG.imp (OD.fieldAddr rfl rfl fa35_1) (by rintro _ _ ⟨rfl, rfl⟩; exact ⟨[], rfl, trivial, rfl⟩)) rfl
 intro θ R hd
 obtain ⟨h3d, _⟩ := hd
 exact Opp.plain (OG.imp (OD.load rfl ti3 rfl (i := 3) rfl rfl) (by rintro _ _ ⟨rfl, rfl⟩; exact ⟨[], rfl, trivial, rfl⟩)) rfl
 intro θ R hd
 obtain ⟨h2d, h4d, _⟩ := hd
 exact Opp.plain (OG.imp (OD.mulI rfl rfl rfl (by omega)) (by rintro _ _ ⟨rfl, rfl⟩; exact ⟨[], rfl, trivial, rfl⟩)) rfl
 intro θ R hd
 exact Opp.plain (OG.imp (OD.move rfl rfl) (by rintro _ _ ⟨rfl, rfl⟩; exact ⟨[], rfl, trivial, rfl⟩)) rfl
 intro θ R hd
 obtain ⟨h5d, h6d, _⟩ := hd
 exact Opp.plain (OG.imp (OD.addI rfl rfl rfl (by omega)) (by rintro _ _ ⟨rfl, rfl⟩; exact ⟨[], rfl, trivial, rfl⟩)) rfl
 intro θ R hd
 exact Opp.plain (OG.imp (OD.fieldAddr rfl rfl fa35_3) (by rintro _ _ ⟨rfl, rfl⟩; exact ⟨[], rfl, trivial, rfl⟩)) rfl
 intro θ R hd
 obtain ⟨h8d, _⟩ := hd
 exact Opp.plain (OG.imp (OD.load rfl ti23 rfl (i := 3) rfl rfl) (by rintro _ _ ⟨rfl, rfl⟩; exact ⟨[], rfl, trivial, rfl⟩)) rfl
 intro θ R hd
 exact Opp.plain (OG.imp (OD.move rfl rfl) (by rintro _ _ ⟨rfl, rfl⟩; exact ⟨[], rfl, trivial, rfl⟩)) rfl
 intro θ R hd
 exact Opp.plain (OG.imp (OD.fieldAddr rfl rfl fa35_2) (by rintro _ _ ⟨rfl, rfl⟩; exact ⟨[], rfl, trivial, rfl⟩)) rfl
 intro θ R hd
 obtain ⟨h11d, _⟩ := hd
 exact Opp.plain (OG.imp (OD.load rfl ti3 rfl (i := 3) rfl rfl) (by rintro _ _ ⟨rfl, rfl⟩; exact ⟨[], rfl, trivial, rfl⟩)) rfl
 intro θ R hd
 obtain ⟨h10d, h12d, _⟩ := hd
 exact Opp.plain (OG.imp (OD.mulI rfl rfl rfl (by omega)) (by rintro _ _ ⟨rfl, rfl⟩; exact ⟨[], rfl, trivial, rfl⟩)) rfl
 intro θ R hd
 exact Opp.plain (OG.imp (OD.move rfl rfl) (by rintro _ _ ⟨rfl, rfl⟩; exact ⟨[], rfl, trivial, rfl⟩)) rfl
 intro θ R hd
 obtain ⟨h13d, h14d, _⟩ := hd
 exact Opp.plain (OG.imp (OD.addI rfl rfl rfl (by omega)) (by rintro _ _ ⟨rfl, rfl⟩; exact ⟨[], rfl, trivial, rfl⟩)) rfl
 intro θ R hd
 obtain ⟨h9d, h15d, _⟩ := hd
 exact Opp.plain (OG.imp (OD.indexAddr rfl et23 rfl (Ent.drop 4 ead.app) rfl (by omega)) (by rintro _ _ ⟨rfl, rfl⟩; exact ⟨[], rfl, trivial, rfl⟩)) rfl
 intro θ R hd
 obtain ⟨h16d, _⟩ := hd
 exact Opp.plain (OG.imp (OD.loadInt rfl ti3 rfl (Ent.drop 4 ead.app) (by omega)) (by rintro _ _ ⟨rfl, rfl⟩; exact ⟨[], rfl, trivial, rfl⟩)) rfl
 intro θ R hd
 obtain ⟨h1d, h7d, _⟩ := hd
 exact Opp.plain (OG.imp (OD.indexAddr rfl et23 rfl (Ent.ints (i := 1) rfl) rfl (by omega)) (by rintro _ _ ⟨rfl, rfl⟩; exact ⟨[], rfl, trivial, rfl⟩)) rfl
 intro θ hall
 obtain ⟨_, _, _, _, _, _, _, _, _, _, _, _, _, _, _, _, _, _, _, _⟩ := hall
 refine G.at [] 0 (env' := [(1, .pointer (some ⟨g1, 0, none⟩)), (2, .pointer (some ⟨g2, 0, none⟩)), (3, .pointer (some ⟨g5, 0, none⟩)), (18, .int .i64 (ar)), (19, .int .i64 ((i : Int))), (4, .int .i64 ((i : Int))), (23, .int .i64 (ac)), (24, .int .i64 ((k : Int))), (44, .int .i64 (ad.getD ((((i : Int) * ac) + (k : Int) : Int).toNat) 0)), (45, elemPtr v3 1 ((((k : Int) * ar) + (i : Int) : Int).toNat))]) ⟨rfl, rfl, rfl, rfl, rfl, rfl, rfl, rfl, rfl, rfl, trivial⟩ (own' := box g5 35 [.int .i64 (ap), .int .i64 (ac), .int .i64 (ar), v3] :: ints 3 v3 zs :: box g2 35 [.int .i64 (0), .int .i64 (0), .int .i64 (0), .slice none 0 0] :: box g1 35 [.int .i64 (ap), .int .i64 (ar), .int .i64 (ac), vad] :: own) rfl ?_
 show G _ _ _ [_] _ _ _ _
 refine G.stepD0 (OD.storeInt rfl ti3 rfl rfl (i := 1) rfl (by omega)) rfl rfl ?_
 refine G.nil (GE.blockN (GE.then_ (GC.region ?_)))
 refine G.stepD (OD.addI rfl rfl rfl (by first | omega | (simp only [List.length_set, List.length_replicate]; omega))) rfl rfl rfl ?_
 refine G.stepD (OD.move rfl rfl) rfl rfl rfl ?_
 refine G.nil ?_
 exact GE.again (k + 1, (zs).set ((((k : Int) * ar) + (i : Int) : Int).toNat) (ad.getD ((((i : Int) * ac) + (k : Int) : Int).toNat) 0)) (⟨by omega, by rw [List.length_set]; exact hzl, fold_nx hz rfl⟩) (by first | omega | (dsimp only; omega)) ⟨rfl, rfl, rfl, rfl, rfl, rfl, rfl, rfl, trivial⟩ [] 0 rfl
 replace hc7 := of_decide_eq_false hc7
 refine GC.exit (GE.pass (GE.pass (GE.hit (GE.blockN (GE.then_ (GC.region ?_))))))
 refine G.stepD (OD.addI rfl rfl rfl (by omega)) rfl rfl rfl ?_
 refine G.stepD (OD.move rfl rfl) rfl rfl rfl ?_
 refine G.nil ?_
 exact GE.again (i + 1, zs) (⟨by omega, hzl, fold_nx hy (by rw [hz, show k = ac.toNat by omega]; rfl)⟩) (by first | omega | (dsimp only; omega)) ⟨rfl, rfl, rfl, rfl, rfl, trivial⟩ [] 0 rfl
 replace hc6 := of_decide_eq_false hc6
 refine GC.exit (GE.pass (GE.pass (GE.hit (GE.then_ (GC.seq (GC.region ?_))))))
 refine G.stepD (OD.loadAgg rfl ti35 rfl (i := 0) rfl (us := [.int .i64 (ap), .int .i64 (ac), .int .i64 (ar), v3]) rfl rfl) rfl rfl rfl ?_
 refine G.stepD0 (OD.store rfl ti35 rfl rfl (us := [.int .i64 (ap), .int .i64 (ac), .int .i64 (ar), v3]) rfl rfl (allC rfl (allC rfl (allC rfl (allC (IsS.one hs4) rfl)))) (i := 2) rfl rfl) rfl rfl ?_
 refine G.nil (GE.then_ (GC.ret ?_))
 exact GE.body [1] 3 (resN rfl (RVs.cons (rv_cells ti35 rfl (i := 2) rfl rfl) RVs.nil) rfl) rfl (⟨v3, rfl, hs4, congrArg (fun (l0 : List Int) => ints 3 v3 l0 :: own) ((by rw [hy, show i = ar.toNat by omega]; rfl : ys = tpI ar ac ad))⟩)

set_option maxRecDepth 100000 in
theorem lawsEqual_ok {W : World} {own : List Asn} {ap : Int} {ar : Int} {ac : Int} {vad : Value} {ad : List Int} {bp : Int} {br : Int} {bc : Int} {vbd : Value} {bd : List Int}  (sad : IsS vad) (ead : Ent own fun w => Ints w vad ad)   (sbd : IsS vbd) (ebd : Ent own fun w => Ints w vbd bd)  (h3 : ap = bp) (h4 : ar = br) (h5 : ac = bc) (hl : ad.length ≤ 9223372036854775807) : Spec Try.prog 20 [.agg #[.int .i64 (ap), .int .i64 (ar), .int .i64 (ac), vad], .agg #[.int .i64 (bp), .int .i64 (br), .int .i64 (bc), vbd]] W own (fun v ow => v = .bool (samB ad bd) ∧ ow = own) := by
 refine Spec.enter Try.f20 _ Try.func20 rfl (n := 31) rfl rfl ?_
 refine GC.seq (GC.region ?_)
 refine G.step (OG.box (cs := [.int .i64 (ap), .int .i64 (ar), .int .i64 (ac), vad]) rfl rfl rfl) rfl rfl rfl ?_
 rintro _ _ ⟨g1, rfl, rfl⟩
 refine G.step (OG.box (cs := [.int .i64 (bp), .int .i64 (br), .int .i64 (bc), vbd]) rfl rfl rfl) rfl rfl rfl ?_
 rintro _ _ ⟨g2, rfl, rfl⟩
 refine G.stepD (OD.assign rfl rfl) rfl rfl rfl ?_
 refine G.nil (GE.then_ (GC.seq (GC.region ?_)))
 refine G.stepD (OD.fieldAddr rfl rfl fa35_0) rfl rfl rfl ?_
 refine G.stepD (OD.load rfl ti3 rfl (i := 1) rfl rfl) rfl rfl rfl ?_
 refine G.stepD (OD.fieldAddr rfl rfl fa35_0) rfl rfl rfl ?_
 refine G.stepD (OD.load rfl ti3 rfl (i := 0) rfl rfl) rfl rfl rfl ?_
 refine G.stepD (OD.eqv (OD.eql rfl rfl rfl) (congrArg Value.bool ((beq_iff_eq.2 (by omega)) : _ = true))) rfl rfl rfl ?_
 refine G.stepD (OD.move rfl rfl) rfl rfl rfl ?_
 refine G.stepGD (OD.fieldAddr rfl rfl fa35_1) rfl rfl rfl rfl rfl ?_
 refine G.stepGD (OD.load rfl ti3 rfl (i := 1) rfl rfl) rfl rfl rfl rfl rfl ?_
 refine G.stepGD (OD.fieldAddr rfl rfl fa35_1) rfl rfl rfl rfl rfl ?_
 refine G.stepGD (OD.load rfl ti3 rfl (i := 0) rfl rfl) rfl rfl rfl rfl rfl ?_
 refine G.stepGD (OD.eqv (OD.eql rfl rfl rfl) (congrArg Value.bool ((beq_iff_eq.2 (by omega)) : _ = true))) rfl rfl rfl rfl rfl ?_
 refine G.stepD (OD.pickT rfl rfl rfl) rfl rfl rfl ?_
 refine G.stepD (OD.move rfl rfl) rfl rfl rfl ?_
 refine G.stepGD (OD.fieldAddr rfl rfl fa35_2) rfl rfl rfl rfl rfl ?_
 refine G.stepGD (OD.load rfl ti3 rfl (i := 1) rfl rfl) rfl rfl rfl rfl rfl ?_
 refine G.stepGD (OD.fieldAddr rfl rfl fa35_2) rfl rfl rfl rfl rfl ?_
 refine G.stepGD (OD.load rfl ti3 rfl (i := 0) rfl rfl) rfl rfl rfl rfl rfl ?_
 refine G.stepGD (OD.eqv (OD.eql rfl rfl rfl) (congrArg Value.bool ((beq_iff_eq.2 (by omega)) : _ = true))) rfl rfl rfl rfl rfl ?_
 refine G.stepD (OD.pickT rfl rfl rfl) rfl rfl rfl ?_
 refine G.stepD (OD.move rfl rfl) rfl rfl rfl ?_
 refine G.stepGD (OD.fieldAddr rfl rfl fa35_3) rfl rfl rfl rfl rfl ?_
 refine G.stepGD (OD.load rfl ti23 rfl (i := 1) rfl rfl) rfl rfl rfl rfl rfl ?_
 refine G.stepGD (OD.fieldAddr rfl rfl fa35_3) rfl rfl rfl rfl rfl ?_
 refine G.stepGD (OD.load rfl ti23 rfl (i := 0) rfl rfl) rfl rfl rfl rfl rfl ?_
 refine G.stepG (OG.call [vad, vbd] ent56 rfl rfl rfl rfl (by exact (lawsInts_s sad (Ent.drop 2 ead) sbd (Ent.drop 2 ebd) (hl)))) rfl rfl rfl rfl rfl ?_
 rintro _ _ ⟨rfl, rfl⟩
 refine G.stepD (OD.pickT rfl rfl rfl) rfl rfl rfl ?_
 refine G.stepD (OD.assign rfl rfl) rfl rfl rfl ?_
 refine G.nil (GE.then_ (GC.ret ?_))
 exact GE.body [] 2 (res1 rfl rfl) rfl (⟨rfl, rfl⟩)

end Go.Proofs.Ytiapoopcicjldaa
