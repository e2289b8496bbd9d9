/-
  Nilpotent matrices: contracts by walks.
-/
import Derived.Test.YtiapoopcicjldaaWExi
namespace Go.Proofs.Ytiapoopcicjldaa
set_option linter.unusedVariables false
set_option linter.unusedSimpArgs false
open Go.RowKit

theorem ent69 : ∀ us w, (callFunc 69 us).run Try.prog w = .ok (.enter 69 us) w := fun us w => by kernel_rfl
theorem ent73 : ∀ us w, (callFunc 73 us).run Try.prog w = .ok (.enter 73 us) w := fun us w => by kernel_rfl
theorem ent95 : ∀ us w, (callFunc 95 us).run Try.prog w = .ok (.enter 95 us) w := fun us w => by kernel_rfl
theorem ent98 : ∀ us w, (callFunc 98 us).run Try.prog w = .ok (.enter 98 us) w := fun us w => by kernel_rfl

set_option maxHeartbeats 4000000 in
set_option maxRecDepth 100000 in
theorem nilpotencyOf_s {W : World} {own : List Asn} {ap : Int} {ar : Int} {ac : Int} {vad : Value} {ad : List Int}  (sad : IsS vad) (ead : Ent own fun w => Ints w vad ad)   : Spec Try.prog 72 [.agg #[.int .i64 (ap), .int .i64 (ar), .int .i64 (ac), vad]] W own (fun v ow => v = .int .i64 (nlF ⟨ap, ar, ac, ad⟩) ∧ ow = own) := by
 refine Spec.enter Try.f72 _ Try.func72 rfl (n := 33) rfl rfl ?_
 refine GC.seq (GC.region ?_)
 refine G.step (OG.box (cs := [.int .i64 (ap), .int .i64 (ar), .int .i64 (ac), vad]) rfl rfl rfl) rfl rfl rfl ?_
 rintro _ _ ⟨g1, rfl, rfl⟩
 refine G.stepD (OD.assign rfl rfl) rfl rfl rfl ?_
 refine G.nil (GE.then_ (GC.seq (GC.seq (GC.region ?_))))
 refine G.stepD (OD.loadAgg rfl ti35 rfl (i := 0) rfl (us := [.int .i64 (ap), .int .i64 (ar), .int .i64 (ac), vad]) rfl rfl) rfl rfl rfl ?_
 refine G.step (OG.call [.agg #[.int .i64 (ap), .int .i64 (ar), .int .i64 (ac), vad]] ent54 rfl rfl rfl rfl (by exact (matrixOk_s sad (Ent.drop 1 ead)))) rfl rfl rfl ?_
 rintro _ _ ⟨rfl, rfl⟩
 refine G.stepD (OD.not rfl rfl) rfl rfl rfl ?_
 refine G.stepD (OD.move rfl rfl) rfl rfl rfl ?_
 rcases Bool.eq_false_or_eq_true (!(matOkB ⟨ap, ar, ac, ad⟩)) with hg2 | hg2
 have hg2e := hg2
 refine G.at [] 0 (env' := [(0, .agg #[.int .i64 (ap), .int .i64 (ar), .int .i64 (ac), vad]), (1, .pointer (some ⟨g1, 0, none⟩)), (2, .int .i64 (0)), (5, .agg #[.int .i64 (ap), .int .i64 (ar), .int .i64 (ac), vad]), (6, .bool (matOkB ⟨ap, ar, ac, ad⟩)), (7, .bool true), (8, .bool true)]) (⟨rfl, rfl, rfl, rfl, rfl, (congrArg (fun b => some (Value.bool b)) hg2e), (congrArg (fun b => some (Value.bool b)) hg2e), trivial⟩) rfl ?_
 replace hg2 := eq_false_of_not hg2
 refine G.skipG rfl rfl rfl rfl rfl rfl (G.skipG rfl rfl rfl rfl rfl rfl (G.skipG rfl rfl rfl rfl rfl rfl (G.skipG rfl rfl rfl rfl rfl rfl (G.skipG rfl rfl rfl rfl rfl rfl ?_))))
 refine G.stepD (OD.pickT rfl rfl rfl) rfl rfl rfl ?_
 refine G.nil (GE.then_ (GC.condT rfl (GC.seq (GC.region ?_))))
 refine G.stepD (OD.assign rfl rfl) rfl rfl rfl ?_
 refine G.nil (GE.then_ (GC.ret (GE.passR ?_)))
 exact GE.body [] 1 (res1 rfl rfl) rfl (⟨congrArg (fun (a0 : Int) => (.int .i64 (a0) : Value)) ((by first | (rw [← hn, show ar.toNat + 1 - k = 0 by omega]; rfl) | (rw [nlF, if_neg (by simp_all)]) : (-1 : Int) = nlF ⟨ap, ar, ac, ad⟩)), rfl⟩)
 have hg2e := hg2
 refine G.at [] 0 (env' := [(0, .agg #[.int .i64 (ap), .int .i64 (ar), .int .i64 (ac), vad]), (1, .pointer (some ⟨g1, 0, none⟩)), (2, .int .i64 (0)), (5, .agg #[.int .i64 (ap), .int .i64 (ar), .int .i64 (ac), vad]), (6, .bool (matOkB ⟨ap, ar, ac, ad⟩)), (7, .bool false), (8, .bool false)]) (⟨rfl, rfl, rfl, rfl, rfl, (congrArg (fun b => some (Value.bool b)) hg2e), (congrArg (fun b => some (Value.bool b)) hg2e), trivial⟩) rfl ?_
 replace hg2 := eq_true_of_not hg2
 refine G.stepGD (OD.fieldAddr rfl rfl fa35_1) rfl rfl rfl rfl rfl ?_
 refine G.stepGD (OD.load rfl ti3 rfl (i := 0) rfl rfl) rfl rfl rfl rfl rfl ?_
 refine G.stepGD (OD.fieldAddr rfl rfl fa35_2) rfl rfl rfl rfl rfl ?_
 refine G.stepGD (OD.load rfl ti3 rfl (i := 0) rfl rfl) rfl rfl rfl rfl rfl ?_
 refine G.stepGD (OD.neq rfl rfl rfl) rfl rfl rfl rfl rfl ?_
 refine G.stepD (OD.pickF rfl rfl rfl) rfl rfl rfl ?_
 refine G.nil (GE.then_ ?_)
 refine GC.cond rfl (fun hc3 => ?_) (fun hc3 => ?_)
 replace hc3 := ne_of_bne hc3
 refine GC.seq (GC.region ?_)
 refine G.stepD (OD.assign rfl rfl) rfl rfl rfl ?_
 refine G.nil (GE.then_ (GC.ret (GE.passR ?_)))
 exact GE.body [] 1 (res1 rfl rfl) rfl (⟨congrArg (fun (a0 : Int) => (.int .i64 (a0) : Value)) ((by first | (rw [← hn, show ar.toNat + 1 - k = 0 by omega]; rfl) | (rw [nlF, if_neg (by simp_all)]) : (-1 : Int) = nlF ⟨ap, ar, ac, ad⟩)), rfl⟩)
 replace hc3 := eq_of_bne_false hc3
 have h1 : matOkB ⟨ap, ar, ac, ad⟩ = true := hg2
 have h4 : ar = ac := by first | assumption | omega
 obtain ⟨hr, hc, hal, hap⟩ := matOk_dim h1
 have hg1 := matOk_rg h1
 have h3 := matOk_three h1
 have hp2 := primeB_range h3.1
 simp only at hr hc hal hap hg1 h3 hp2
 have hm1 := mulBd (A := 40) (B := 40) hr hr
 have hal2 : (ad.length : Int) = ar * ar := by rw [hal, ← h4]
 refine GC.skip (GE.then_ (GC.seq (GC.region ?_)))
 refine G.stepD (OD.fieldAddr rfl rfl fa35_0) rfl rfl rfl ?_
 refine G.stepD (OD.load rfl ti3 rfl (i := 0) rfl rfl) rfl rfl rfl ?_
 refine G.stepD (OD.fieldAddr rfl rfl fa35_1) rfl rfl rfl ?_
 refine G.stepD (OD.load rfl ti3 rfl (i := 0) rfl rfl) rfl rfl rfl ?_
 refine G.step (OG.call [.int .i64 (ap), .int .i64 (ar)] ent73 rfl rfl rfl rfl (by exact (unitMatrix_ok (h3.1) (h3.2.1)))) rfl rfl rfl ?_
 rintro _ _ ⟨v4, rfl, hs5, rfl⟩
 refine G.step (OG.alloc rfl ti35 (zs := [.int .i64 (0), .int .i64 (0), .int .i64 (0), .slice none 0 0]) rfl) rfl rfl rfl ?_
 rintro _ _ ⟨g6, rfl, rfl⟩
 refine G.stepD0 (OD.store rfl ti35 rfl rfl (us := [.int .i64 (ap), .int .i64 (ar), .int .i64 (ar), v4]) rfl rfl (allC rfl (allC rfl (allC rfl (allC (IsS.one hs5) rfl)))) (i := 0) rfl rfl) rfl rfl ?_
 refine G.nil (GE.then_ (GC.seq (GC.seq (GC.region ?_))))
 refine G.stepD (OD.assign rfl rfl) rfl rfl rfl ?_
 refine G.nil (GE.then_ (GC.block ?_))
 refine GC.loop (ι := Nat × Int × List Int × Value) (fun ⟨k, c, ys, v⟩ => [(1, .pointer (some ⟨g1, 0, none⟩)), (3, .pointer (some ⟨g6, 0, none⟩)), (4, .int .i64 ((k : Int)))]) (fun ⟨k, c, ys, v⟩ => box g6 35 [.int .i64 (ap), .int .i64 (ar), .int .i64 (c), v] :: ints 3 v ys :: box g1 35 [.int .i64 (ap), .int .i64 (ar), .int .i64 (ac), vad] :: own) (fun ⟨k, c, ys, v⟩ => ((k : Int) ≤ ar + 1) ∧ (c = ar) ∧ (ys = pwI ap ar ad k) ∧ (nlG ap ar ad (ar.toNat + 1 - k) k = nlF ⟨ap, ar, ac, ad⟩) ∧ (IsS v)) (fun ⟨k, c, ys, v⟩ => ar.toNat + 1 - k) (0, ar, (unI ar), v4) (⟨by omega, rfl, rfl, by rw [nlF, if_pos ⟨h1, h4⟩]; rfl, hs5⟩) ⟨rfl, rfl, rfl, trivial⟩ [] 0 rfl ?_
 rintro ⟨k, c, ys, v⟩ ⟨hk, hcc, hy, hn, hv⟩
 have hyl : ys.length = (ar * ar).toNat := by rw [hy]; exact pwI_len k
 have hyg : Rg ap ys := by rw [hy]; exact pwI_rg ⟨by omega, by omega⟩ hg1 k
 refine GC.seq (GC.seq (GC.region ?_))
 refine G.stepD (OD.move rfl rfl) rfl rfl rfl ?_
 refine G.stepD (OD.fieldAddr rfl rfl fa35_1) rfl rfl rfl ?_
 refine G.stepD (OD.load rfl ti3 rfl (i := 2) rfl rfl) rfl rfl rfl ?_
 refine G.stepD (OD.leq rfl rfl rfl) rfl rfl rfl ?_
 refine G.nil (GE.then_ ?_)
 refine GC.cond rfl (fun hc7 => ?_) (fun hc7 => ?_)
 replace hc7 := of_decide_eq_true hc7
 refine GC.skip (GE.then_ (GC.seq (GC.block (GC.seq (GC.seq (GC.region ?_))))))
 refine G.stepD (OD.fieldAddr rfl rfl fa35_3) rfl rfl rfl ?_
 refine G.stepD (OD.load rfl ti23 rfl (i := 0) rfl rfl) rfl rfl rfl ?_
 refine G.step (OG.call [v] ent98 rfl rfl rfl rfl (by exact (isZero_s hv (Ent.ints (i := 1) rfl)))) rfl rfl rfl ?_
 rintro _ _ ⟨rfl, rfl⟩
 refine G.nil (GE.then_ ?_)
 refine GC.cond rfl (fun hc8 => ?_) (fun hc8 => ?_)
 refine GC.seq (GC.region ?_)
 refine G.stepD (OD.move rfl rfl) rfl rfl rfl ?_
 refine G.stepD (OD.assign rfl rfl) rfl rfl rfl ?_
 refine G.nil (GE.then_ (GC.ret (GE.passR (GE.blockR (GE.passR (GE.passR (GE.blockR (GE.passR ?_))))))))
 exact GE.body [] 3 (res1 rfl rfl) rfl (⟨congrArg (fun (a0 : Int) => (.int .i64 (a0) : Value)) ((by rw [← hn]; exact (nlG_hit (by omega) (by rw [← hy]; assumption)).symm : ((k : Int) : Int) = nlF ⟨ap, ar, ac, ad⟩)), rfl⟩)
 refine GC.skip (GE.then_ (GC.region ?_))
 refine G.stepD (OD.loadAgg rfl ti35 rfl (i := 0) rfl (us := [.int .i64 (ap), .int .i64 (ar), .int .i64 (c), v]) rfl rfl) rfl rfl rfl ?_
 refine G.stepD (OD.loadAgg rfl ti35 rfl (i := 2) rfl (us := [.int .i64 (ap), .int .i64 (ar), .int .i64 (ac), vad]) rfl rfl) rfl rfl rfl ?_
 refine G.step (OG.call [.agg #[.int .i64 (ap), .int .i64 (ar), .int .i64 (c), v], .agg #[.int .i64 (ap), .int .i64 (ar), .int .i64 (ac), vad]] ent55 rfl rfl rfl rfl (by exact (times_w hv (Ent.ints (i := 1) rfl) sad (Ent.drop 3 ead) (hr) (by omega) (hc) (by rw [hyl, hcc]; exact Int.toNat_of_nonneg hm1.1) (by rw [hal, hcc]) (by omega)))) rfl rfl rfl ?_
 rintro _ _ ⟨v9, rfl, hs10, rfl⟩
 refine G.stepD0 (OD.store rfl ti35 rfl rfl (us := [.int .i64 (ap), .int .i64 (ar), .int .i64 (ac), v9]) rfl rfl (allC rfl (allC rfl (allC rfl (allC (IsS.one hs10) rfl)))) (i := 1) rfl rfl) rfl rfl ?_
 refine G.nil (GE.blockN (GE.then_ (GC.region ?_)))
 refine G.stepD (OD.move rfl rfl) rfl rfl rfl ?_
 refine G.stepD (OD.addI rfl rfl rfl (by omega)) rfl rfl rfl ?_
 refine G.stepD (OD.assign rfl rfl) rfl rfl rfl ?_
 refine G.nil ?_
 exact GE.again (k + 1, ac, mulF ap ar c ac ys ad, v9) (⟨by omega, h4.symm, by rw [hcc, ← h4, hy]; rfl, by rw [← hn]; exact (nlG_next (f := ar.toNat + 1 - k) (by omega) (by rw [← hy]; assumption)).symm, hs10⟩) (by first | omega | (dsimp only; omega)) ⟨rfl, rfl, rfl, trivial⟩ [1, 0, 1] 1 rfl
 replace hc7 := of_decide_eq_false hc7
 refine GC.exit (GE.pass (GE.pass (GE.hit (GE.then_ (GC.seq (GC.region ?_))))))
 refine G.stepD (OD.assign rfl rfl) rfl rfl rfl ?_
 refine G.nil (GE.then_ (GC.ret ?_))
 exact GE.body [] 3 (res1 rfl rfl) rfl (⟨congrArg (fun (a0 : Int) => (.int .i64 (a0) : Value)) ((by first | (rw [← hn, show ar.toNat + 1 - k = 0 by omega]; rfl) | (rw [nlF, if_neg (by simp_all)]) : (-1 : Int) = nlF ⟨ap, ar, ac, ad⟩)), rfl⟩)

set_option maxHeartbeats 4000000 in
set_option maxRecDepth 100000 in
theorem specNilpotencyOf_s {W : World} {own : List Asn} {ap : Int} {ar : Int} {ac : Int} {vad : Value} {ad : List Int}  (sad : IsS vad) (ead : Ent own fun w => Ints w vad ad)   : Spec Try.prog 67 [.agg #[.int .i64 (ap), .int .i64 (ar), .int .i64 (ac), vad]] W own (fun v ow => v = .int .i64 (nlF ⟨ap, ar, ac, ad⟩) ∧ ow = own) := by
 refine Spec.enter Try.f67 _ Try.func67 rfl (n := 33) rfl rfl ?_
 refine GC.seq (GC.region ?_)
 refine G.step (OG.box (cs := [.int .i64 (ap), .int .i64 (ar), .int .i64 (ac), vad]) rfl rfl rfl) rfl rfl rfl ?_
 rintro _ _ ⟨g1, rfl, rfl⟩
 refine G.stepD (OD.assign rfl rfl) rfl rfl rfl ?_
 refine G.nil (GE.then_ (GC.seq (GC.seq (GC.region ?_))))
 refine G.stepD (OD.loadAgg rfl ti35 rfl (i := 0) rfl (us := [.int .i64 (ap), .int .i64 (ar), .int .i64 (ac), vad]) rfl rfl) rfl rfl rfl ?_
 refine G.step (OG.call [.agg #[.int .i64 (ap), .int .i64 (ar), .int .i64 (ac), vad]] ent60 rfl rfl rfl rfl (by exact (specMatrixOk_s sad (Ent.drop 1 ead)))) rfl rfl rfl ?_
 rintro _ _ ⟨rfl, rfl⟩
 refine G.stepD (OD.not rfl rfl) rfl rfl rfl ?_
 refine G.stepD (OD.move rfl rfl) rfl rfl rfl ?_
 rcases Bool.eq_false_or_eq_true (!(matOkB ⟨ap, ar, ac, ad⟩)) with hg2 | hg2
 have hg2e := hg2
 refine G.at [] 0 (env' := [(0, .agg #[.int .i64 (ap), .int .i64 (ar), .int .i64 (ac), vad]), (1, .pointer (some ⟨g1, 0, none⟩)), (2, .int .i64 (0)), (5, .agg #[.int .i64 (ap), .int .i64 (ar), .int .i64 (ac), vad]), (6, .bool (matOkB ⟨ap, ar, ac, ad⟩)), (7, .bool true), (8, .bool true)]) (⟨rfl, rfl, rfl, rfl, rfl, (congrArg (fun b => some (Value.bool b)) hg2e), (congrArg (fun b => some (Value.bool b)) hg2e), trivial⟩) rfl ?_
 replace hg2 := eq_false_of_not hg2
 refine G.skipG rfl rfl rfl rfl rfl rfl (G.skipG rfl rfl rfl rfl rfl rfl (G.skipG rfl rfl rfl rfl rfl rfl (G.skipG rfl rfl rfl rfl rfl rfl (G.skipG rfl rfl rfl rfl rfl rfl ?_))))
 refine G.stepD (OD.pickT rfl rfl rfl) rfl rfl rfl ?_
 refine G.nil (GE.then_ (GC.condT rfl (GC.seq (GC.region ?_))))
 refine G.stepD (OD.assign rfl rfl) rfl rfl rfl ?_
 refine G.nil (GE.then_ (GC.ret (GE.passR ?_)))
 exact GE.body [] 1 (res1 rfl rfl) rfl (⟨congrArg (fun (a0 : Int) => (.int .i64 (a0) : Value)) ((by first | (rw [← hn, show ar.toNat + 1 - k = 0 by omega]; rfl) | (rw [nlF, if_neg (by simp_all)]) : (-1 : Int) = nlF ⟨ap, ar, ac, ad⟩)), rfl⟩)
 have hg2e := hg2
 refine G.at [] 0 (env' := [(0, .agg #[.int .i64 (ap), .int .i64 (ar), .int .i64 (ac), vad]), (1, .pointer (some ⟨g1, 0, none⟩)), (2, .int .i64 (0)), (5, .agg #[.int .i64 (ap), .int .i64 (ar), .int .i64 (ac), vad]), (6, .bool (matOkB ⟨ap, ar, ac, ad⟩)), (7, .bool false), (8, .bool false)]) (⟨rfl, rfl, rfl, rfl, rfl, (congrArg (fun b => some (Value.bool b)) hg2e), (congrArg (fun b => some (Value.bool b)) hg2e), trivial⟩) rfl ?_
 replace hg2 := eq_true_of_not hg2
 refine G.stepGD (OD.fieldAddr rfl rfl fa35_1) rfl rfl rfl rfl rfl ?_
 refine G.stepGD (OD.load rfl ti3 rfl (i := 0) rfl rfl) rfl rfl rfl rfl rfl ?_
 refine G.stepGD (OD.fieldAddr rfl rfl fa35_2) rfl rfl rfl rfl rfl ?_
 refine G.stepGD (OD.load rfl ti3 rfl (i := 0) rfl rfl) rfl rfl rfl rfl rfl ?_
 refine G.stepGD (OD.neq rfl rfl rfl) rfl rfl rfl rfl rfl ?_
 refine G.stepD (OD.pickF rfl rfl rfl) rfl rfl rfl ?_
 refine G.nil (GE.then_ ?_)
 refine GC.cond rfl (fun hc3 => ?_) (fun hc3 => ?_)
 replace hc3 := ne_of_bne hc3
 refine GC.seq (GC.region ?_)
 refine G.stepD (OD.assign rfl rfl) rfl rfl rfl ?_
 refine G.nil (GE.then_ (GC.ret (GE.passR ?_)))
 exact GE.body [] 1 (res1 rfl rfl) rfl (⟨congrArg (fun (a0 : Int) => (.int .i64 (a0) : Value)) ((by first | (rw [← hn, show ar.toNat + 1 - k = 0 by omega]; rfl) | (rw [nlF, if_neg (by simp_all)]) : (-1 : Int) = nlF ⟨ap, ar, ac, ad⟩)), rfl⟩)
 replace hc3 := eq_of_bne_false hc3
 have h1 : matOkB ⟨ap, ar, ac, ad⟩ = true := hg2
 have h4 : ar = ac := by first | assumption | omega
 obtain ⟨hr, hc, hal, hap⟩ := matOk_dim h1
 have hg1 := matOk_rg h1
 have h3 := matOk_three h1
 have hp2 := primeB_range h3.1
 simp only at hr hc hal hap hg1 h3 hp2
 have hm1 := mulBd (A := 40) (B := 40) hr hr
 have hal2 : (ad.length : Int) = ar * ar := by rw [hal, ← h4]
 refine GC.skip (GE.then_ (GC.seq (GC.region ?_)))
 refine G.stepD (OD.fieldAddr rfl rfl fa35_0) rfl rfl rfl ?_
 refine G.stepD (OD.load rfl ti3 rfl (i := 0) rfl rfl) rfl rfl rfl ?_
 refine G.stepD (OD.fieldAddr rfl rfl fa35_1) rfl rfl rfl ?_
 refine G.stepD (OD.load rfl ti3 rfl (i := 0) rfl rfl) rfl rfl rfl ?_
 refine G.step (OG.call [.int .i64 (ap), .int .i64 (ar)] ent69 rfl rfl rfl rfl (by exact (l1Unit_ok (h3.1) (h3.2.1)))) rfl rfl rfl ?_
 rintro _ _ ⟨v4, rfl, hs5, rfl⟩
 refine G.step (OG.alloc rfl ti35 (zs := [.int .i64 (0), .int .i64 (0), .int .i64 (0), .slice none 0 0]) rfl) rfl rfl rfl ?_
 rintro _ _ ⟨g6, rfl, rfl⟩
 refine G.stepD0 (OD.store rfl ti35 rfl rfl (us := [.int .i64 (ap), .int .i64 (ar), .int .i64 (ar), v4]) rfl rfl (allC rfl (allC rfl (allC rfl (allC (IsS.one hs5) rfl)))) (i := 0) rfl rfl) rfl rfl ?_
 refine G.nil (GE.then_ (GC.seq (GC.seq (GC.region ?_))))
 refine G.stepD (OD.assign rfl rfl) rfl rfl rfl ?_
 refine G.nil (GE.then_ (GC.block ?_))
 refine GC.loop (ι := Nat × Int × List Int × Value) (fun ⟨k, c, ys, v⟩ => [(1, .pointer (some ⟨g1, 0, none⟩)), (3, .pointer (some ⟨g6, 0, none⟩)), (4, .int .i64 ((k : Int)))]) (fun ⟨k, c, ys, v⟩ => box g6 35 [.int .i64 (ap), .int .i64 (ar), .int .i64 (c), v] :: ints 3 v ys :: box g1 35 [.int .i64 (ap), .int .i64 (ar), .int .i64 (ac), vad] :: own) (fun ⟨k, c, ys, v⟩ => ((k : Int) ≤ ar + 1) ∧ (c = ar) ∧ (ys = pwI ap ar ad k) ∧ (nlG ap ar ad (ar.toNat + 1 - k) k = nlF ⟨ap, ar, ac, ad⟩) ∧ (IsS v)) (fun ⟨k, c, ys, v⟩ => ar.toNat + 1 - k) (0, ar, (unI ar), v4) (⟨by omega, rfl, rfl, by rw [nlF, if_pos ⟨h1, h4⟩]; rfl, hs5⟩) ⟨rfl, rfl, rfl, trivial⟩ [] 0 rfl ?_
 rintro ⟨k, c, ys, v⟩ ⟨hk, hcc, hy, hn, hv⟩
 have hyl : ys.length = (ar * ar).toNat := by rw [hy]; exact pwI_len k
 have hyg : Rg ap ys := by rw [hy]; exact pwI_rg ⟨by omega, by omega⟩ hg1 k
 refine GC.seq (GC.seq (GC.region ?_))
 refine G.stepD (OD.move rfl rfl) rfl rfl rfl ?_
 refine G.stepD (OD.fieldAddr rfl rfl fa35_1) rfl rfl rfl ?_
 refine G.stepD (OD.load rfl ti3 rfl (i := 2) rfl rfl) rfl rfl rfl ?_
 refine G.stepD (OD.leq rfl rfl rfl) rfl rfl rfl ?_
 refine G.nil (GE.then_ ?_)
 refine GC.cond rfl (fun hc7 => ?_) (fun hc7 => ?_)
 replace hc7 := of_decide_eq_true hc7
 refine GC.skip (GE.then_ (GC.seq (GC.block (GC.seq (GC.seq (GC.region ?_))))))
 refine G.stepD (OD.fieldAddr rfl rfl fa35_3) rfl rfl rfl ?_
 refine G.stepD (OD.load rfl ti23 rfl (i := 0) rfl rfl) rfl rfl rfl ?_
 refine G.step (OG.call [v] ent95 rfl rfl rfl rfl (by exact (l1IsZero_s hv (Ent.ints (i := 1) rfl) (by omega)))) rfl rfl rfl ?_
 rintro _ _ ⟨rfl, rfl⟩
 refine G.nil (GE.then_ ?_)
 refine GC.cond rfl (fun hc8 => ?_) (fun hc8 => ?_)
 refine GC.seq (GC.region ?_)
 refine G.stepD (OD.move rfl rfl) rfl rfl rfl ?_
 refine G.stepD (OD.assign rfl rfl) rfl rfl rfl ?_
 refine G.nil (GE.then_ (GC.ret (GE.passR (GE.blockR (GE.passR (GE.passR (GE.blockR (GE.passR ?_))))))))
 exact GE.body [] 3 (res1 rfl rfl) rfl (⟨congrArg (fun (a0 : Int) => (.int .i64 (a0) : Value)) ((by rw [← hn]; exact (nlG_hit (by omega) (by rw [← hy]; assumption)).symm : ((k : Int) : Int) = nlF ⟨ap, ar, ac, ad⟩)), rfl⟩)
 refine GC.skip (GE.then_ (GC.region ?_))
 refine G.stepD (OD.loadAgg rfl ti35 rfl (i := 0) rfl (us := [.int .i64 (ap), .int .i64 (ar), .int .i64 (c), v]) rfl rfl) rfl rfl rfl ?_
 refine G.stepD (OD.loadAgg rfl ti35 rfl (i := 2) rfl (us := [.int .i64 (ap), .int .i64 (ar), .int .i64 (ac), vad]) rfl rfl) rfl rfl rfl ?_
 refine G.step (OG.call [.agg #[.int .i64 (ap), .int .i64 (ar), .int .i64 (c), v], .agg #[.int .i64 (ap), .int .i64 (ar), .int .i64 (ac), vad]] ent70 rfl rfl rfl rfl (by exact (l1Mul_w hv (Ent.ints (i := 1) rfl) sad (Ent.drop 3 ead) (hr) (by omega) (hc) (by rw [hyl, hcc]; exact Int.toNat_of_nonneg hm1.1) (by rw [hal, hcc]) (by omega)))) rfl rfl rfl ?_
 rintro _ _ ⟨v9, rfl, hs10, rfl⟩
 refine G.stepD0 (OD.store rfl ti35 rfl rfl (us := [.int .i64 (ap), .int .i64 (ar), .int .i64 (ac), v9]) rfl rfl (allC rfl (allC rfl (allC rfl (allC (IsS.one hs10) rfl)))) (i := 1) rfl rfl) rfl rfl ?_
 refine G.nil (GE.blockN (GE.then_ (GC.region ?_)))
 refine G.stepD (OD.move rfl rfl) rfl rfl rfl ?_
 refine G.stepD (OD.addI rfl rfl rfl (by omega)) rfl rfl rfl ?_
 refine G.stepD (OD.assign rfl rfl) rfl rfl rfl ?_
 refine G.nil ?_
 exact GE.again (k + 1, ac, mulF ap ar c ac ys ad, v9) (⟨by omega, h4.symm, by rw [hcc, ← h4, hy]; rfl, by rw [← hn]; exact (nlG_next (f := ar.toNat + 1 - k) (by omega) (by rw [← hy]; assumption)).symm, hs10⟩) (by first | omega | (dsimp only; omega)) ⟨rfl, rfl, rfl, trivial⟩ [1, 0, 1] 1 rfl
 replace hc7 := of_decide_eq_false hc7
 refine GC.exit (GE.pass (GE.pass (GE.hit (GE.then_ (GC.seq (GC.region ?_))))))
 refine G.stepD (OD.assign rfl rfl) rfl rfl rfl ?_
 refine G.nil (GE.then_ (GC.ret ?_))
 exact GE.body [] 3 (res1 rfl rfl) rfl (⟨congrArg (fun (a0 : Int) => (.int .i64 (a0) : Value)) ((by first | (rw [← hn, show ar.toNat + 1 - k = 0 by omega]; rfl) | (rw [nlF, if_neg (by simp_all)]) : (-1 : Int) = nlF ⟨ap, ar, ac, ad⟩)), rfl⟩)

end Go.Proofs.Ytiapoopcicjldaa
