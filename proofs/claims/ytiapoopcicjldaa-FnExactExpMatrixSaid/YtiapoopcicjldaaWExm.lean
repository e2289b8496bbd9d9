/-
  Exponentials of matrices: contracts by walks.
-/
import Derived.Test.YtiapoopcicjldaaWExn
import Derived.Test.YtiapoopcicjldaaExw2
namespace Go.Proofs.Ytiapoopcicjldaa
set_option linter.unusedVariables false
set_option linter.unusedSimpArgs false
open Go.RowKit

theorem ent34 : ∀ us w, (callFunc 34 us).run Try.prog w = .ok (.enter 34 us) w := fun us w => by kernel_rfl
theorem ent35 : ∀ us w, (callFunc 35 us).run Try.prog w = .ok (.enter 35 us) w := fun us w => by kernel_rfl
theorem ent67 : ∀ us w, (callFunc 67 us).run Try.prog w = .ok (.enter 67 us) w := fun us w => by kernel_rfl
theorem ent71 : ∀ us w, (callFunc 71 us).run Try.prog w = .ok (.enter 71 us) w := fun us w => by kernel_rfl
theorem ent72 : ∀ us w, (callFunc 72 us).run Try.prog w = .ok (.enter 72 us) w := fun us w => by kernel_rfl
theorem ent74 : ∀ us w, (callFunc 74 us).run Try.prog w = .ok (.enter 74 us) w := fun us w => by kernel_rfl

theorem inverse_s {W : World} {own : List Asn} {n : Int} {p : Int}   (hp : 1 ≤ p ∧ p ≤ 10007) (hn : 0 ≤ n) (h0 : ∃ r, ivR 30 n p 1 0 = some r) : Spec Try.prog 74 [.int .i64 (n), .int .i64 (p)] W own (fun v ow => v = .int .i64 (ivE n p) ∧ ow = own) := by obtain ⟨r, h0⟩ := h0; rw [ivE_of h0]; exact Spec.below fun w hs => inverse_any n p r w hp.1 hp.2 hn h0

set_option maxHeartbeats 4000000 in
set_option maxRecDepth 100000 in
theorem expMatrix_w {W : World} {own : List Asn} {ap : Int} {ar : Int} {ac : Int} {vad : Value} {ad : List Int}  (sad : IsS vad) (ead : Ent own fun w => Ints w vad ad)   : Spec Try.prog 35 [.agg #[.int .i64 (ap), .int .i64 (ar), .int .i64 (ac), vad]] W own (fun v ow => ∃ (r3 : Value), v = .tuple #[.agg #[.int .i64 ((exF ⟨ap, ar, ac, ad⟩).p), .int .i64 ((exF ⟨ap, ar, ac, ad⟩).r), .int .i64 ((exF ⟨ap, ar, ac, ad⟩).c), r3], .bool (exOk ⟨ap, ar, ac, ad⟩)] ∧ IsS r3 ∧ ow = ints 3 r3 ((exF ⟨ap, ar, ac, ad⟩).d) :: own) := by
 refine Spec.enter Try.f35 _ Try.func35 rfl (n := 56) rfl rfl ?_
 refine GC.seq (GC.region ?_)
 refine G.step (OG.box (cs := [.int .i64 (ap), .int .i64 (ar), .int .i64 (ac), vad]) rfl rfl rfl) rfl rfl rfl ?_
 rintro _ _ ⟨g1, rfl, rfl⟩
 refine G.step (OG.alloc rfl ti35 (zs := [.int .i64 (0), .int .i64 (0), .int .i64 (0), .slice none 0 0]) rfl) rfl rfl rfl ?_
 rintro _ _ ⟨g2, rfl, rfl⟩
 refine G.stepD (OD.assign rfl rfl) rfl rfl rfl ?_
 refine G.nil (GE.then_ (GC.seq (GC.region ?_)))
 refine G.stepD (OD.loadAgg rfl ti35 rfl (i := 1) rfl (us := [.int .i64 (ap), .int .i64 (ar), .int .i64 (ac), vad]) rfl rfl) rfl rfl rfl ?_
 refine G.step (OG.call [.agg #[.int .i64 (ap), .int .i64 (ar), .int .i64 (ac), vad]] ent72 rfl rfl rfl rfl (by exact (nilpotencyOf_s sad (Ent.drop 2 ead)))) rfl rfl rfl ?_
 rintro _ _ ⟨rfl, rfl⟩
 refine G.stepD (OD.assign rfl rfl) rfl rfl rfl ?_
 refine G.nil (GE.then_ (GC.seq (GC.seq (GC.region ?_))))
 refine G.stepD (OD.move rfl rfl) rfl rfl rfl ?_
 refine G.stepD (OD.lss rfl rfl rfl) rfl rfl rfl ?_
 refine G.stepD (OD.move rfl rfl) rfl rfl rfl ?_
 rcases Bool.eq_false_or_eq_true (decide (nlF ⟨ap, ar, ac, ad⟩ < 0)) with hg3 | hg3
 have hg3e := hg3
 refine G.at [] 0 (env' := [(0, .agg #[.int .i64 (ap), .int .i64 (ar), .int .i64 (ac), vad]), (1, .pointer (some ⟨g1, 0, none⟩)), (2, .pointer (some ⟨g2, 0, none⟩)), (3, .bool false), (9, .agg #[.int .i64 (ap), .int .i64 (ar), .int .i64 (ac), vad]), (10, .int .i64 (nlF ⟨ap, ar, ac, ad⟩)), (4, .int .i64 (nlF ⟨ap, ar, ac, ad⟩)), (11, .int .i64 (nlF ⟨ap, ar, ac, ad⟩)), (12, .bool true), (13, .bool true)]) (⟨rfl, rfl, rfl, rfl, rfl, rfl, rfl, rfl, (by exact congrArg (fun b => some (Value.bool b)) hg3e), (by exact congrArg (fun b => some (Value.bool b)) hg3e), trivial⟩) rfl ?_
 replace hg3 := of_decide_eq_true hg3
 refine G.skipG rfl rfl rfl rfl rfl rfl (G.skipG rfl rfl rfl rfl rfl rfl (G.skipG rfl rfl rfl rfl rfl rfl (G.skipG rfl rfl rfl rfl rfl rfl ?_)))
 refine G.stepD (OD.pickT rfl rfl rfl) rfl rfl rfl ?_
 refine G.nil (GE.then_ (GC.condT rfl (GC.seq (GC.region ?_))))
 refine G.stepD (OD.build (idx := []) (xs := []) (vs := []) (cs := []) (zs := [.int .i64 (0), .int .i64 (0), .int .i64 (0), .slice none 0 0]) (r := [.int .i64 (0), .int .i64 (0), .int .i64 (0), .slice none 0 0]) rfl ti35 rfl rfl rfl trivial rfl) rfl rfl rfl ?_
 refine G.stepD0 (OD.store rfl ti35 rfl rfl (us := [.int .i64 (0), .int .i64 (0), .int .i64 (0), .slice none 0 0]) rfl rfl rfl (i := 0) rfl rfl) rfl rfl ?_
 refine G.stepD (OD.assign rfl rfl) rfl rfl rfl ?_
 refine G.nil (GE.then_ (GC.ret (GE.passR ?_)))
 refine GE.nilInts 3 ?_
 exact GE.body [0] 2 (resN rfl (RVs.cons (rv_cells ti35 rfl (i := 1) rfl rfl) (RVs.cons (rv_tmp rfl) RVs.nil)) rfl) rfl (⟨(.slice none 0 0), congr (congr (congr (congrArg (fun (a0 : Int) (a1 : Int) (a2 : Int) (a4 : Bool) => (.tuple #[.agg #[.int .i64 (a0), .int .i64 (a1), .int .i64 (a2), (.slice none 0 0)], .bool (a4)] : Value)) ((by rw [exF, if_neg (by simp only [exOk]; simp; omega)] : (0 : Int) = (exF ⟨ap, ar, ac, ad⟩).p))) ((by rw [exF, if_neg (by simp only [exOk]; simp; omega)] : (0 : Int) = (exF ⟨ap, ar, ac, ad⟩).r))) ((by rw [exF, if_neg (by simp only [exOk]; simp; omega)] : (0 : Int) = (exF ⟨ap, ar, ac, ad⟩).c))) ((by simp only [exOk]; simp; omega : (false : Bool) = exOk ⟨ap, ar, ac, ad⟩)), IsS.nil, congrArg (fun (l0 : List Int) => ints 3 (.slice none 0 0) l0 :: own) ((by rw [exF, if_neg (by simp only [exOk]; simp; omega)] : [] = (exF ⟨ap, ar, ac, ad⟩).d))⟩)
 have hg3e := hg3
 refine G.at [] 0 (env' := [(0, .agg #[.int .i64 (ap), .int .i64 (ar), .int .i64 (ac), vad]), (1, .pointer (some ⟨g1, 0, none⟩)), (2, .pointer (some ⟨g2, 0, none⟩)), (3, .bool false), (9, .agg #[.int .i64 (ap), .int .i64 (ar), .int .i64 (ac), vad]), (10, .int .i64 (nlF ⟨ap, ar, ac, ad⟩)), (4, .int .i64 (nlF ⟨ap, ar, ac, ad⟩)), (11, .int .i64 (nlF ⟨ap, ar, ac, ad⟩)), (12, .bool false), (13, .bool false)]) (⟨rfl, rfl, rfl, rfl, rfl, rfl, rfl, rfl, (by exact congrArg (fun b => some (Value.bool b)) hg3e), (by exact congrArg (fun b => some (Value.bool b)) hg3e), trivial⟩) rfl ?_
 replace hg3 := of_decide_eq_false hg3
 refine G.stepGD (OD.move rfl rfl) rfl rfl rfl rfl rfl ?_
 refine G.stepGD (OD.fieldAddr rfl rfl fa35_0) rfl rfl rfl rfl rfl ?_
 refine G.stepGD (OD.load rfl ti3 rfl (i := 1) rfl rfl) rfl rfl rfl rfl rfl ?_
 refine G.stepGD (OD.gtr rfl rfl rfl) rfl rfl rfl rfl rfl ?_
 refine G.stepD (OD.pickF rfl rfl rfl) rfl rfl rfl ?_
 refine G.nil (GE.then_ ?_)
 refine GC.cond rfl (fun hc4 => ?_) (fun hc4 => ?_)
 replace hc4 := of_decide_eq_true hc4
 refine GC.seq (GC.region ?_)
 refine G.stepD (OD.build (idx := []) (xs := []) (vs := []) (cs := []) (zs := [.int .i64 (0), .int .i64 (0), .int .i64 (0), .slice none 0 0]) (r := [.int .i64 (0), .int .i64 (0), .int .i64 (0), .slice none 0 0]) rfl ti35 rfl rfl rfl trivial rfl) rfl rfl rfl ?_
 refine G.stepD0 (OD.store rfl ti35 rfl rfl (us := [.int .i64 (0), .int .i64 (0), .int .i64 (0), .slice none 0 0]) rfl rfl rfl (i := 0) rfl rfl) rfl rfl ?_
 refine G.stepD (OD.assign rfl rfl) rfl rfl rfl ?_
 refine G.nil (GE.then_ (GC.ret (GE.passR ?_)))
 refine GE.nilInts 3 ?_
 exact GE.body [0] 2 (resN rfl (RVs.cons (rv_cells ti35 rfl (i := 1) rfl rfl) (RVs.cons (rv_tmp rfl) RVs.nil)) rfl) rfl (⟨(.slice none 0 0), congr (congr (congr (congrArg (fun (a0 : Int) (a1 : Int) (a2 : Int) (a4 : Bool) => (.tuple #[.agg #[.int .i64 (a0), .int .i64 (a1), .int .i64 (a2), (.slice none 0 0)], .bool (a4)] : Value)) ((by rw [exF, if_neg (by simp only [exOk]; simp; omega)] : (0 : Int) = (exF ⟨ap, ar, ac, ad⟩).p))) ((by rw [exF, if_neg (by simp only [exOk]; simp; omega)] : (0 : Int) = (exF ⟨ap, ar, ac, ad⟩).r))) ((by rw [exF, if_neg (by simp only [exOk]; simp; omega)] : (0 : Int) = (exF ⟨ap, ar, ac, ad⟩).c))) ((by simp only [exOk]; simp; omega : (false : Bool) = exOk ⟨ap, ar, ac, ad⟩)), IsS.nil, congrArg (fun (l0 : List Int) => ints 3 (.slice none 0 0) l0 :: own) ((by rw [exF, if_neg (by simp only [exOk]; simp; omega)] : [] = (exF ⟨ap, ar, ac, ad⟩).d))⟩)
 replace hc4 := of_decide_eq_false hc4
 have hNb := (nlF_ok (M := ⟨ap, ar, ac, ad⟩) (by omega)).2.2
 have h1 : matOkB ⟨ap, ar, ac, ad⟩ = true := (nlF_ok (M := ⟨ap, ar, ac, ad⟩) (by omega)).1
 have h4 : ar = ac := (nlF_ok (M := ⟨ap, ar, ac, ad⟩) (by omega)).2.1
 obtain ⟨hr, hc, hal, hap⟩ := matOk_dim h1
 have hg1 := matOk_rg h1
 have h3 := matOk_three h1
 have hp2 := primeB_range h3.1
 simp only at hr hc hal hap hg1 h3 hp2
 have hm1 := mulBd (A := 40) (B := 40) hr hr
 have hal2 : (ad.length : Int) = ar * ar := by rw [hal, ← h4]
 have hm2 : ar * ac = ar * ar := by rw [← h4]
 have hok : exOk ⟨ap, ar, ac, ad⟩ = true := by simp only [exOk, Bool.and_eq_true, decide_eq_true_eq]; omega
 refine GC.skip (GE.then_ (GC.seq (GC.region ?_)))
 refine G.stepD (OD.fieldAddr rfl rfl fa35_0) rfl rfl rfl ?_
 refine G.stepD (OD.load rfl ti3 rfl (i := 1) rfl rfl) rfl rfl rfl ?_
 refine G.stepD (OD.fieldAddr rfl rfl fa35_1) rfl rfl rfl ?_
 refine G.stepD (OD.load rfl ti3 rfl (i := 1) rfl rfl) rfl rfl rfl ?_
 refine G.stepD (OD.fieldAddr rfl rfl fa35_2) rfl rfl rfl ?_
 refine G.stepD (OD.load rfl ti3 rfl (i := 1) rfl rfl) rfl rfl rfl ?_
 refine G.step (OG.call [.int .i64 (ap), .int .i64 (ar), .int .i64 (ac)] ent58 rfl rfl rfl rfl (by exact (zeroMatrix_ok (h3.1) (h3.2.1) (h3.2.2)))) rfl rfl rfl ?_
 rintro _ _ ⟨v5, rfl, hs6, rfl⟩
 refine G.step (OG.alloc rfl ti35 (zs := [.int .i64 (0), .int .i64 (0), .int .i64 (0), .slice none 0 0]) rfl) rfl rfl rfl ?_
 rintro _ _ ⟨g7, rfl, rfl⟩
 refine G.stepD0 (OD.store rfl ti35 rfl rfl (us := [.int .i64 (ap), .int .i64 (ar), .int .i64 (ac), v5]) rfl rfl (allC rfl (allC rfl (allC rfl (allC (IsS.one hs6) rfl)))) (i := 0) rfl rfl) rfl rfl ?_
 refine G.nil (GE.then_ (GC.seq (GC.region ?_)))
 refine G.stepD (OD.fieldAddr rfl rfl fa35_0) rfl rfl rfl ?_
 refine G.stepD (OD.load rfl ti3 rfl (i := 3) rfl rfl) rfl rfl rfl ?_
 refine G.stepD (OD.fieldAddr rfl rfl fa35_1) rfl rfl rfl ?_
 refine G.stepD (OD.load rfl ti3 rfl (i := 3) rfl rfl) rfl rfl rfl ?_
 refine G.step (OG.call [.int .i64 (ap), .int .i64 (ar)] ent73 rfl rfl rfl rfl (by exact (unitMatrix_ok (h3.1) (h3.2.1)))) rfl rfl rfl ?_
 rintro _ _ ⟨v8, rfl, hs9, rfl⟩
 refine G.step (OG.alloc rfl ti35 (zs := [.int .i64 (0), .int .i64 (0), .int .i64 (0), .slice none 0 0]) rfl) rfl rfl rfl ?_
 rintro _ _ ⟨g10, rfl, rfl⟩
 refine G.stepD0 (OD.store rfl ti35 rfl rfl (us := [.int .i64 (ap), .int .i64 (ar), .int .i64 (ar), v8]) rfl rfl (allC rfl (allC rfl (allC rfl (allC (IsS.one hs9) rfl)))) (i := 0) rfl rfl) rfl rfl ?_
 refine G.nil (GE.then_ (GC.seq (GC.region ?_)))
 refine G.stepD (OD.assign rfl rfl) rfl rfl rfl ?_
 refine G.nil (GE.then_ (GC.seq (GC.seq (GC.region ?_))))
 refine G.stepD (OD.move rfl rfl) rfl rfl rfl ?_
 refine G.stepD (OD.move rfl rfl) rfl rfl rfl ?_
 refine G.nil (GE.then_ (GC.block ?_))
 refine GC.loop (ι := Nat × Int × Int × List Int × Value × List Int × Value) (fun ⟨k, f, c, ys, v, zs, u⟩ => [(1, .pointer (some ⟨g1, 0, none⟩)), (2, .pointer (some ⟨g2, 0, none⟩)), (5, .pointer (some ⟨g7, 0, none⟩)), (6, .pointer (some ⟨g10, 0, none⟩)), (32, .int .i64 (nlF ⟨ap, ar, ac, ad⟩)), (7, .int .i64 (f)), (33, .int .i64 ((k : Int)))]) (fun ⟨k, f, c, ys, v, zs, u⟩ => box g10 35 [.int .i64 (ap), .int .i64 (ar), .int .i64 (c), u] :: ints 3 u zs :: box g7 35 [.int .i64 (ap), .int .i64 (ar), .int .i64 (ac), v] :: ints 3 v ys :: box g2 35 [.int .i64 (0), .int .i64 (0), .int .i64 (0), .slice none 0 0] :: box g1 35 [.int .i64 (ap), .int .i64 (ar), .int .i64 (ac), vad] :: own) (fun ⟨k, f, c, ys, v, zs, u⟩ => ((k : Int) ≤ nlF ⟨ap, ar, ac, ad⟩) ∧ (c = ar) ∧ (f = fcM ap (fun i => ivE i ap) (k - 1)) ∧ (ys = exA ap ar ad k) ∧ (zs = pwI ap ar ad (k - 1)) ∧ (IsS v) ∧ (IsS u)) (fun ⟨k, f, c, ys, v, zs, u⟩ => (nlF ⟨ap, ar, ac, ad⟩).toNat - k) (0, 1, ar, List.replicate ((ar : Int) * ac).toNat 0, v5, (unI ar), v8) (⟨by omega, rfl, rfl, by rw [exA, h4], rfl, hs6, hs9⟩) ⟨rfl, rfl, rfl, rfl, rfl, rfl, rfl, trivial⟩ [] 0 rfl ?_
 rintro ⟨k, f, c, ys, v, zs, u⟩ ⟨hk, hcc, hf, hy, hz, hv, hu⟩
 have hyl : ys.length = (ar * ar).toNat := by rw [hy]; exact exA_len k
 have hyg : Rg ap ys := by rw [hy]; exact exA_rg (by omega) k
 have hzl : zs.length = (ar * ar).toNat := by rw [hz]; exact pwI_len _
 have hzg : Rg ap zs := by rw [hz]; exact pwI_rg ⟨by omega, by omega⟩ hg1 _
 have hfb := fcM_bd (p := ap) (iv := fun i => ivE i ap) (by omega) (k - 1)
 rw [← hf] at hfb
 refine GC.seq (GC.region ?_)
 refine G.stepD (OD.lss rfl rfl rfl) rfl rfl rfl ?_
 refine G.nil (GE.then_ (GC.seq ?_))
 refine GC.cond rfl (fun hc11 => ?_) (fun hc11 => ?_)
 replace hc11 := of_decide_eq_true hc11
 refine GC.skip (GE.then_ (GC.seq (GC.block (GC.seq (GC.region ?_)))))
 refine G.stepD (OD.move rfl rfl) rfl rfl rfl ?_
 refine G.stepD (OD.assign rfl rfl) rfl rfl rfl ?_
 refine G.nil (GE.then_ (GC.seq (GC.seq (GC.region ?_))))
 refine G.stepD (OD.move rfl rfl) rfl rfl rfl ?_
 refine G.stepD (OD.gtr rfl rfl rfl) rfl rfl rfl ?_
 refine G.nil (GE.then_ ?_)
 refine GC.cond rfl (fun hc12 => ?_) (fun hc12 => ?_)
 replace hc12 := of_decide_eq_true hc12
 have hk0 : 0 < k := by omega
 have hf2 := fc_to (by omega) hf hk0
 have hz2 : mulF ap ar c ac zs ad = pwI ap ar ad (k + 1 - 1) := by rw [hcc, ← h4]; exact pw_to hz hk0
 have hzg2 : Rg ap (mulF ap ar c ac zs ad) := by rw [hz2]; exact pwI_rg ⟨by omega, by omega⟩ hg1 _
 have hzl2 : (mulF ap ar c ac zs ad).length = (ar * ar).toNat := by rw [hz2]; exact pwI_len _
 have hib := ivE_bd (n := (k : Int)) (p := ap) (by omega)
 have hfi := mulBd (A := 10007) (B := 10007) (a := f) (b := ivE (k : Int) ap) (by omega) (by omega)
 have hfr := tm_le (a := f * ivE (k : Int) ap) (b := ap) hfi.1 (by omega)
 refine GC.seq (GC.region ?_)
 refine G.stepD (OD.loadAgg rfl ti35 rfl (i := 0) rfl (us := [.int .i64 (ap), .int .i64 (ar), .int .i64 (c), u]) rfl rfl) rfl rfl rfl ?_
 refine G.stepD (OD.loadAgg rfl ti35 rfl (i := 5) rfl (us := [.int .i64 (ap), .int .i64 (ar), .int .i64 (ac), vad]) rfl rfl) rfl rfl rfl ?_
 refine G.step (OG.call [.agg #[.int .i64 (ap), .int .i64 (ar), .int .i64 (c), u], .agg #[.int .i64 (ap), .int .i64 (ar), .int .i64 (ac), vad]] ent55 rfl rfl rfl rfl (by exact (times_w hu (Ent.ints (i := 1) rfl) sad (Ent.drop 6 ead) (hr) (by omega) (hc) (by rw [hzl, hcc]; exact Int.toNat_of_nonneg hm1.1) (by rw [hal, hcc]) (by omega)))) rfl rfl rfl ?_
 rintro _ _ ⟨v13, rfl, hs14, rfl⟩
 refine G.stepD0 (OD.store rfl ti35 rfl rfl (us := [.int .i64 (ap), .int .i64 (ar), .int .i64 (ac), v13]) rfl rfl (allC rfl (allC rfl (allC rfl (allC (IsS.one hs14) rfl)))) (i := 1) rfl rfl) rfl rfl ?_
 refine G.nil (GE.then_ ?_)
 refine GC.at [] 0 (env' := [(1, .pointer (some ⟨g1, 0, none⟩)), (2, .pointer (some ⟨g2, 0, none⟩)), (5, .pointer (some ⟨g7, 0, none⟩)), (6, .pointer (some ⟨g10, 0, none⟩)), (32, .int .i64 (nlF ⟨ap, ar, ac, ad⟩)), (7, .int .i64 (f)), (33, .int .i64 ((k : Int))), (8, .int .i64 ((k : Int)))]) ⟨rfl, rfl, rfl, rfl, rfl, rfl, rfl, rfl, trivial⟩ rfl ?_
 refine GC.par (its := [⟨41, [], [], [], [], fun _ => .int .i64 (f), fun _ => True, fun _ => []⟩,
     ⟨42, [], [], [], [], fun _ => .int .i64 ((k : Int)), fun _ => True, fun _ => []⟩,
     ⟨43, [], [], [], [], fun _ => .pointer (some ⟨g1, 0, none⟩), fun _ => True, fun _ => []⟩,
     ⟨44, [(2, 43)], [], [], [], fun _ => .int .i64 (ap), fun _ => True, fun _ => []⟩,
     ⟨45, [(1, 42), (3, 44)], [], [], [], fun _ => .int .i64 (ivE (k : Int) ap), fun _ => True, fun _ => []⟩,
     ⟨46, [(0, 41), (4, 45)], [], [], [], fun _ => .int .i64 (f * (ivE (k : Int) ap)), fun _ => True, fun _ => []⟩,
     ⟨47, [], [], [], [], fun _ => .pointer (some ⟨g1, 0, none⟩), fun _ => True, fun _ => []⟩,
     ⟨48, [(6, 47)], [], [], [], fun _ => .int .i64 (ap), fun _ => True, fun _ => []⟩,
     ⟨49, [(5, 46), (7, 48)], [], [], [], fun _ => .int .i64 ((f * (ivE (k : Int) ap)).tmod ap), fun _ => True, fun _ => []⟩]) (by kernel_rfl) (by kernel_rfl) (POps.cons ?_ (POps.cons ?_ (POps.cons ?_ (POps.cons ?_ (POps.cons ?_ (POps.cons ?_ (POps.cons ?_ (POps.cons ?_ (POps.cons ?_ POps.nil))))))))) ?_
 intro θ R hd
 exact Opp.plain (OG.imp (OD.move rfl rfl) (by rintro _ _ ⟨rfl, rfl⟩; exact ⟨[], rfl, trivial, rfl⟩)) rfl
 intro θ R hd
 exact Opp.plain (OG.imp (OD.move rfl rfl) (by rintro _ _ ⟨rfl, rfl⟩; exact ⟨[], rfl, trivial, rfl⟩)) rfl
 intro θ R hd
 exact Opp.plain (OG.imp (OD.fieldAddr rfl rfl fa35_0) (by rintro _ _ ⟨rfl, rfl⟩; exact ⟨[], rfl, trivial, rfl⟩)) rfl
 intro θ R hd
 obtain ⟨h2d, _⟩ := hd
 exact Opp.plain (OG.imp (OD.load rfl ti3 rfl (i := 6) rfl rfl) (by rintro _ _ ⟨rfl, rfl⟩; exact ⟨[], rfl, trivial, rfl⟩)) rfl
 intro θ R hd
 obtain ⟨h1d, h3d, _⟩ := hd
 exact Opp.plain (OG.imp (OG.call [.int .i64 ((k : Int)), .int .i64 (ap)] ent74 rfl rfl rfl rfl (by exact (inverse_s (by omega) (by omega) (inv_has h3.1 hk0 (by omega) (by omega))))) (by rintro _ _ ⟨rfl, rfl⟩; exact ⟨[], rfl, trivial, rfl⟩)) rfl
 intro θ R hd
 obtain ⟨h0d, h4d, _⟩ := hd
 exact Opp.plain (OG.imp (OD.mulI rfl rfl rfl (by omega)) (by rintro _ _ ⟨rfl, rfl⟩; exact ⟨[], rfl, trivial, rfl⟩)) rfl
 intro θ R hd
 exact Opp.plain (OG.imp (OD.fieldAddr rfl rfl fa35_0) (by rintro _ _ ⟨rfl, rfl⟩; exact ⟨[], rfl, trivial, rfl⟩)) rfl
 intro θ R hd
 obtain ⟨h6d, _⟩ := hd
 exact Opp.plain (OG.imp (OD.load rfl ti3 rfl (i := 6) rfl rfl) (by rintro _ _ ⟨rfl, rfl⟩; exact ⟨[], rfl, trivial, rfl⟩)) rfl
 intro θ R hd
 obtain ⟨h5d, h7d, _⟩ := hd
 exact Opp.plain (OG.imp (OD.rem rfl rfl rfl (by omega)) (by rintro _ _ ⟨rfl, rfl⟩; exact ⟨[], rfl, trivial, rfl⟩)) rfl
 intro θ hall
 obtain ⟨_, _, _, _, _, _, _, _, _, _⟩ := hall
 refine G.at [] 0 (env' := [(1, .pointer (some ⟨g1, 0, none⟩)), (2, .pointer (some ⟨g2, 0, none⟩)), (5, .pointer (some ⟨g7, 0, none⟩)), (6, .pointer (some ⟨g10, 0, none⟩)), (32, .int .i64 (nlF ⟨ap, ar, ac, ad⟩)), (7, .int .i64 (f)), (33, .int .i64 ((k : Int))), (49, .int .i64 ((f * (ivE (k : Int) ap)).tmod ap))]) ⟨rfl, rfl, rfl, rfl, rfl, rfl, rfl, rfl, trivial⟩ (own' := ints 3 v13 (mulF ap ar c ac zs ad) :: box g10 35 [.int .i64 (ap), .int .i64 (ar), .int .i64 (ac), v13] :: ints 3 u zs :: box g7 35 [.int .i64 (ap), .int .i64 (ar), .int .i64 (ac), v] :: ints 3 v ys :: box g2 35 [.int .i64 (0), .int .i64 (0), .int .i64 (0), .slice none 0 0] :: box g1 35 [.int .i64 (ap), .int .i64 (ar), .int .i64 (ac), vad] :: own) rfl ?_
 show G _ _ _ [_] _ _ _ _
 refine G.stepD (OD.assign rfl rfl) rfl rfl rfl ?_
 refine G.nil (GE.then_ (GC.region ?_))
 refine G.stepD (OD.loadAgg rfl ti35 rfl (i := 3) rfl (us := [.int .i64 (ap), .int .i64 (ar), .int .i64 (ac), v]) rfl rfl) rfl rfl rfl ?_
 refine G.stepD (OD.move rfl rfl) rfl rfl rfl ?_
 refine G.stepD (OD.loadAgg rfl ti35 rfl (i := 1) rfl (us := [.int .i64 (ap), .int .i64 (ar), .int .i64 (ac), v13]) rfl rfl) rfl rfl rfl ?_
 refine G.step (OG.call [.agg #[.int .i64 (ap), .int .i64 (ar), .int .i64 (ac), v], .int .i64 ((f * (ivE (k : Int) ap)).tmod ap), .agg #[.int .i64 (ap), .int .i64 (ar), .int .i64 (ac), v13]] ent57 rfl rfl rfl rfl (by exact (plus_s hv (Ent.ints (i := 4) rfl) hs14 (Ent.ints (i := 0) rfl) (small_of ⟨by omega, by omega⟩ (by omega) hyg) (small_of ⟨by omega, by omega⟩ (by omega) (by assumption)) (by omega) (by omega)))) rfl rfl rfl ?_
 rintro _ _ ⟨v15, rfl, hs16, rfl⟩
 refine G.stepD0 (OD.store rfl ti35 rfl rfl (us := [.int .i64 (ap), .int .i64 (ar), .int .i64 (ac), v15]) rfl rfl (allC rfl (allC rfl (allC rfl (allC (IsS.one hs16) rfl)))) (i := 4) rfl rfl) rfl rfl ?_
 refine G.nil (GE.blockN (GE.then_ (GC.region ?_)))
 refine G.stepD (OD.addI rfl rfl rfl (by omega)) rfl rfl rfl ?_
 refine G.stepD (OD.move rfl rfl) rfl rfl rfl ?_
 refine G.nil ?_
 exact GE.again (k + 1, ((f * (ivE (k : Int) ap)).tmod ap), ac, addF ((f * (ivE (k : Int) ap)).tmod ap) ap ys (mulF ap ar c ac zs ad), v15, mulF ap ar c ac zs ad, v13) (⟨by omega, h4.symm, hf2, ex_to hy hz2 hf2, hz2, hs16, hs14⟩) (by first | omega | (dsimp only; omega)) ⟨rfl, rfl, rfl, rfl, rfl, rfl, rfl, trivial⟩ [2, 1, 2, 0, 2, 2] 2 rfl
 replace hc12 := of_decide_eq_false hc12
 have hk0 : k = 0 := by omega
 have hf2 : f = fcM ap (fun i => ivE i ap) (k + 1 - 1) := by rw [hf, hk0]
 have hz2 : zs = pwI ap ar ad (k + 1 - 1) := by rw [hz, hk0]
 refine GC.skip (GE.then_ (GC.region ?_))
 refine G.stepD (OD.loadAgg rfl ti35 rfl (i := 2) rfl (us := [.int .i64 (ap), .int .i64 (ar), .int .i64 (ac), v]) rfl rfl) rfl rfl rfl ?_
 refine G.stepD (OD.move rfl rfl) rfl rfl rfl ?_
 refine G.stepD (OD.loadAgg rfl ti35 rfl (i := 0) rfl (us := [.int .i64 (ap), .int .i64 (ar), .int .i64 (c), u]) rfl rfl) rfl rfl rfl ?_
 refine G.step (OG.call [.agg #[.int .i64 (ap), .int .i64 (ar), .int .i64 (ac), v], .int .i64 (f), .agg #[.int .i64 (ap), .int .i64 (ar), .int .i64 (c), u]] ent57 rfl rfl rfl rfl (by exact (plus_s hv (Ent.ints (i := 3) rfl) hu (Ent.ints (i := 1) rfl) (small_of ⟨by omega, by omega⟩ (by omega) hyg) (small_of ⟨by omega, by omega⟩ (by omega) (by assumption)) (by omega) (by omega)))) rfl rfl rfl ?_
 rintro _ _ ⟨v17, rfl, hs18, rfl⟩
 refine G.stepD0 (OD.store rfl ti35 rfl rfl (us := [.int .i64 (ap), .int .i64 (ar), .int .i64 (ac), v17]) rfl rfl (allC rfl (allC rfl (allC rfl (allC (IsS.one hs18) rfl)))) (i := 3) rfl rfl) rfl rfl ?_
 refine G.nil (GE.blockN (GE.then_ (GC.region ?_)))
 refine G.stepD (OD.addI rfl rfl rfl (by omega)) rfl rfl rfl ?_
 refine G.stepD (OD.move rfl rfl) rfl rfl rfl ?_
 refine G.nil ?_
 exact GE.again (k + 1, (f), c, addF f ap ys zs, v17, zs, u) (⟨by omega, hcc, hf2, ex_to hy hz2 hf2, hz2, hs18, hu⟩) (by first | omega | (dsimp only; omega)) ⟨rfl, rfl, rfl, rfl, rfl, rfl, rfl, trivial⟩ [1, 1, 1, 0, 1, 1] 1 rfl
 replace hc11 := of_decide_eq_false hc11
 have hNb := (nlF_ok (M := ⟨ap, ar, ac, ad⟩) (by omega)).2.2
 have h1 : matOkB ⟨ap, ar, ac, ad⟩ = true := (nlF_ok (M := ⟨ap, ar, ac, ad⟩) (by omega)).1
 have h4 : ar = ac := (nlF_ok (M := ⟨ap, ar, ac, ad⟩) (by omega)).2.1
 obtain ⟨hr, hc, hal, hap⟩ := matOk_dim h1
 have hg1 := matOk_rg h1
 have h3 := matOk_three h1
 have hp2 := primeB_range h3.1
 simp only at hr hc hal hap hg1 h3 hp2
 have hm1 := mulBd (A := 40) (B := 40) hr hr
 have hal2 : (ad.length : Int) = ar * ar := by rw [hal, ← h4]
 have hm2 : ar * ac = ar * ar := by rw [← h4]
 have hok : exOk ⟨ap, ar, ac, ad⟩ = true := by simp only [exOk, Bool.and_eq_true, decide_eq_true_eq]; omega
 refine GC.exit (GE.pass (GE.pass (GE.hit (GE.then_ (GC.seq (GC.region ?_))))))
 refine G.stepD (OD.loadAgg rfl ti35 rfl (i := 2) rfl (us := [.int .i64 (ap), .int .i64 (ar), .int .i64 (ac), v]) rfl rfl) rfl rfl rfl ?_
 refine G.stepD0 (OD.store rfl ti35 rfl rfl (us := [.int .i64 (ap), .int .i64 (ar), .int .i64 (ac), v]) rfl rfl (allC rfl (allC rfl (allC rfl (allC (IsS.one hv) rfl)))) (i := 4) rfl rfl) rfl rfl ?_
 refine G.stepD (OD.assign rfl rfl) rfl rfl rfl ?_
 refine G.nil (GE.then_ (GC.ret ?_))
 exact GE.body [3] 5 (resN rfl (RVs.cons (rv_cells ti35 rfl (i := 4) rfl rfl) (RVs.cons (rv_tmp rfl) RVs.nil)) rfl) rfl (⟨v, congr (congr (congr (congrArg (fun (a0 : Int) (a1 : Int) (a2 : Int) (a4 : Bool) => (.tuple #[.agg #[.int .i64 (a0), .int .i64 (a1), .int .i64 (a2), v], .bool (a4)] : Value)) ((by rw [exF, if_pos hok] : (ap : Int) = (exF ⟨ap, ar, ac, ad⟩).p))) ((by rw [exF, if_pos hok] : (ar : Int) = (exF ⟨ap, ar, ac, ad⟩).r))) ((by rw [exF, if_pos hok, h4] : (ac : Int) = (exF ⟨ap, ar, ac, ad⟩).c))) ((hok.symm : (true : Bool) = exOk ⟨ap, ar, ac, ad⟩)), hv, congrArg (fun (l0 : List Int) => ints 3 v l0 :: own) ((by rw [exF, if_pos hok, hy, show k = (nlF ⟨ap, ar, ac, ad⟩).toNat by omega] : ys = (exF ⟨ap, ar, ac, ad⟩).d))⟩)

set_option maxHeartbeats 4000000 in
set_option maxRecDepth 100000 in
theorem specExpMatrix_w {W : World} {own : List Asn} {ap : Int} {ar : Int} {ac : Int} {vad : Value} {ad : List Int}  (sad : IsS vad) (ead : Ent own fun w => Ints w vad ad)   : Spec Try.prog 34 [.agg #[.int .i64 (ap), .int .i64 (ar), .int .i64 (ac), vad]] W own (fun v ow => ∃ (r3 : Value), v = .tuple #[.agg #[.int .i64 ((exF ⟨ap, ar, ac, ad⟩).p), .int .i64 ((exF ⟨ap, ar, ac, ad⟩).r), .int .i64 ((exF ⟨ap, ar, ac, ad⟩).c), r3], .bool (exOk ⟨ap, ar, ac, ad⟩)] ∧ IsS r3 ∧ ow = ints 3 r3 ((exF ⟨ap, ar, ac, ad⟩).d) :: own) := by
 refine Spec.enter Try.f34 _ Try.func34 rfl (n := 48) rfl rfl ?_
 refine GC.seq (GC.region ?_)
 refine G.step (OG.box (cs := [.int .i64 (ap), .int .i64 (ar), .int .i64 (ac), vad]) rfl rfl rfl) rfl rfl rfl ?_
 rintro _ _ ⟨g1, rfl, rfl⟩
 refine G.step (OG.alloc rfl ti35 (zs := [.int .i64 (0), .int .i64 (0), .int .i64 (0), .slice none 0 0]) rfl) rfl rfl rfl ?_
 rintro _ _ ⟨g2, rfl, rfl⟩
 refine G.stepD (OD.assign rfl rfl) rfl rfl rfl ?_
 refine G.nil (GE.then_ (GC.seq (GC.region ?_)))
 refine G.stepD (OD.loadAgg rfl ti35 rfl (i := 1) rfl (us := [.int .i64 (ap), .int .i64 (ar), .int .i64 (ac), vad]) rfl rfl) rfl rfl rfl ?_
 refine G.step (OG.call [.agg #[.int .i64 (ap), .int .i64 (ar), .int .i64 (ac), vad]] ent67 rfl rfl rfl rfl (by exact (specNilpotencyOf_s sad (Ent.drop 2 ead)))) rfl rfl rfl ?_
 rintro _ _ ⟨rfl, rfl⟩
 refine G.stepD (OD.assign rfl rfl) rfl rfl rfl ?_
 refine G.nil (GE.then_ (GC.seq (GC.seq (GC.region ?_))))
 refine G.stepD (OD.move rfl rfl) rfl rfl rfl ?_
 refine G.stepD (OD.lss rfl rfl rfl) rfl rfl rfl ?_
 refine G.stepD (OD.move rfl rfl) rfl rfl rfl ?_
 rcases Bool.eq_false_or_eq_true (decide (nlF ⟨ap, ar, ac, ad⟩ < 0)) with hg3 | hg3
 have hg3e := hg3
 refine G.at [] 0 (env' := [(0, .agg #[.int .i64 (ap), .int .i64 (ar), .int .i64 (ac), vad]), (1, .pointer (some ⟨g1, 0, none⟩)), (2, .pointer (some ⟨g2, 0, none⟩)), (3, .bool false), (8, .agg #[.int .i64 (ap), .int .i64 (ar), .int .i64 (ac), vad]), (9, .int .i64 (nlF ⟨ap, ar, ac, ad⟩)), (4, .int .i64 (nlF ⟨ap, ar, ac, ad⟩)), (10, .int .i64 (nlF ⟨ap, ar, ac, ad⟩)), (11, .bool true), (12, .bool true)]) (⟨rfl, rfl, rfl, rfl, rfl, rfl, rfl, rfl, (by exact congrArg (fun b => some (Value.bool b)) hg3e), (by exact congrArg (fun b => some (Value.bool b)) hg3e), trivial⟩) rfl ?_
 replace hg3 := of_decide_eq_true hg3
 refine G.skipG rfl rfl rfl rfl rfl rfl (G.skipG rfl rfl rfl rfl rfl rfl (G.skipG rfl rfl rfl rfl rfl rfl (G.skipG rfl rfl rfl rfl rfl rfl ?_)))
 refine G.stepD (OD.pickT rfl rfl rfl) rfl rfl rfl ?_
 refine G.nil (GE.then_ (GC.condT rfl (GC.seq (GC.region ?_))))
 refine G.stepD (OD.build (idx := []) (xs := []) (vs := []) (cs := []) (zs := [.int .i64 (0), .int .i64 (0), .int .i64 (0), .slice none 0 0]) (r := [.int .i64 (0), .int .i64 (0), .int .i64 (0), .slice none 0 0]) rfl ti35 rfl rfl rfl trivial rfl) rfl rfl rfl ?_
 refine G.stepD0 (OD.store rfl ti35 rfl rfl (us := [.int .i64 (0), .int .i64 (0), .int .i64 (0), .slice none 0 0]) rfl rfl rfl (i := 0) rfl rfl) rfl rfl ?_
 refine G.stepD (OD.assign rfl rfl) rfl rfl rfl ?_
 refine G.nil (GE.then_ (GC.ret (GE.passR ?_)))
 refine GE.nilInts 3 ?_
 exact GE.body [0] 2 (resN rfl (RVs.cons (rv_cells ti35 rfl (i := 1) rfl rfl) (RVs.cons (rv_tmp rfl) RVs.nil)) rfl) rfl (⟨(.slice none 0 0), congr (congr (congr (congrArg (fun (a0 : Int) (a1 : Int) (a2 : Int) (a4 : Bool) => (.tuple #[.agg #[.int .i64 (a0), .int .i64 (a1), .int .i64 (a2), (.slice none 0 0)], .bool (a4)] : Value)) ((by rw [exF, if_neg (by simp only [exOk]; simp; omega)] : (0 : Int) = (exF ⟨ap, ar, ac, ad⟩).p))) ((by rw [exF, if_neg (by simp only [exOk]; simp; omega)] : (0 : Int) = (exF ⟨ap, ar, ac, ad⟩).r))) ((by rw [exF, if_neg (by simp only [exOk]; simp; omega)] : (0 : Int) = (exF ⟨ap, ar, ac, ad⟩).c))) ((by simp only [exOk]; simp; omega : (false : Bool) = exOk ⟨ap, ar, ac, ad⟩)), IsS.nil, congrArg (fun (l0 : List Int) => ints 3 (.slice none 0 0) l0 :: own) ((by rw [exF, if_neg (by simp only [exOk]; simp; omega)] : [] = (exF ⟨ap, ar, ac, ad⟩).d))⟩)
 have hg3e := hg3
 refine G.at [] 0 (env' := [(0, .agg #[.int .i64 (ap), .int .i64 (ar), .int .i64 (ac), vad]), (1, .pointer (some ⟨g1, 0, none⟩)), (2, .pointer (some ⟨g2, 0, none⟩)), (3, .bool false), (8, .agg #[.int .i64 (ap), .int .i64 (ar), .int .i64 (ac), vad]), (9, .int .i64 (nlF ⟨ap, ar, ac, ad⟩)), (4, .int .i64 (nlF ⟨ap, ar, ac, ad⟩)), (10, .int .i64 (nlF ⟨ap, ar, ac, ad⟩)), (11, .bool false), (12, .bool false)]) (⟨rfl, rfl, rfl, rfl, rfl, rfl, rfl, rfl, (by exact congrArg (fun b => some (Value.bool b)) hg3e), (by exact congrArg (fun b => some (Value.bool b)) hg3e), trivial⟩) rfl ?_
 replace hg3 := of_decide_eq_false hg3
 refine G.stepGD (OD.move rfl rfl) rfl rfl rfl rfl rfl ?_
 refine G.stepGD (OD.fieldAddr rfl rfl fa35_0) rfl rfl rfl rfl rfl ?_
 refine G.stepGD (OD.load rfl ti3 rfl (i := 1) rfl rfl) rfl rfl rfl rfl rfl ?_
 refine G.stepGD (OD.gtr rfl rfl rfl) rfl rfl rfl rfl rfl ?_
 refine G.stepD (OD.pickF rfl rfl rfl) rfl rfl rfl ?_
 refine G.nil (GE.then_ ?_)
 refine GC.cond rfl (fun hc4 => ?_) (fun hc4 => ?_)
 replace hc4 := of_decide_eq_true hc4
 refine GC.seq (GC.region ?_)
 refine G.stepD (OD.build (idx := []) (xs := []) (vs := []) (cs := []) (zs := [.int .i64 (0), .int .i64 (0), .int .i64 (0), .slice none 0 0]) (r := [.int .i64 (0), .int .i64 (0), .int .i64 (0), .slice none 0 0]) rfl ti35 rfl rfl rfl trivial rfl) rfl rfl rfl ?_
 refine G.stepD0 (OD.store rfl ti35 rfl rfl (us := [.int .i64 (0), .int .i64 (0), .int .i64 (0), .slice none 0 0]) rfl rfl rfl (i := 0) rfl rfl) rfl rfl ?_
 refine G.stepD (OD.assign rfl rfl) rfl rfl rfl ?_
 refine G.nil (GE.then_ (GC.ret (GE.passR ?_)))
 refine GE.nilInts 3 ?_
 exact GE.body [0] 2 (resN rfl (RVs.cons (rv_cells ti35 rfl (i := 1) rfl rfl) (RVs.cons (rv_tmp rfl) RVs.nil)) rfl) rfl (⟨(.slice none 0 0), congr (congr (congr (congrArg (fun (a0 : Int) (a1 : Int) (a2 : Int) (a4 : Bool) => (.tuple #[.agg #[.int .i64 (a0), .int .i64 (a1), .int .i64 (a2), (.slice none 0 0)], .bool (a4)] : Value)) ((by rw [exF, if_neg (by simp only [exOk]; simp; omega)] : (0 : Int) = (exF ⟨ap, ar, ac, ad⟩).p))) ((by rw [exF, if_neg (by simp only [exOk]; simp; omega)] : (0 : Int) = (exF ⟨ap, ar, ac, ad⟩).r))) ((by rw [exF, if_neg (by simp only [exOk]; simp; omega)] : (0 : Int) = (exF ⟨ap, ar, ac, ad⟩).c))) ((by simp only [exOk]; simp; omega : (false : Bool) = exOk ⟨ap, ar, ac, ad⟩)), IsS.nil, congrArg (fun (l0 : List Int) => ints 3 (.slice none 0 0) l0 :: own) ((by rw [exF, if_neg (by simp only [exOk]; simp; omega)] : [] = (exF ⟨ap, ar, ac, ad⟩).d))⟩)
 replace hc4 := of_decide_eq_false hc4
 have hNb := (nlF_ok (M := ⟨ap, ar, ac, ad⟩) (by omega)).2.2
 have h1 : matOkB ⟨ap, ar, ac, ad⟩ = true := (nlF_ok (M := ⟨ap, ar, ac, ad⟩) (by omega)).1
 have h4 : ar = ac := (nlF_ok (M := ⟨ap, ar, ac, ad⟩) (by omega)).2.1
 obtain ⟨hr, hc, hal, hap⟩ := matOk_dim h1
 have hg1 := matOk_rg h1
 have h3 := matOk_three h1
 have hp2 := primeB_range h3.1
 simp only at hr hc hal hap hg1 h3 hp2
 have hm1 := mulBd (A := 40) (B := 40) hr hr
 have hal2 : (ad.length : Int) = ar * ar := by rw [hal, ← h4]
 have hm2 : ar * ac = ar * ar := by rw [← h4]
 have hok : exOk ⟨ap, ar, ac, ad⟩ = true := by simp only [exOk, Bool.and_eq_true, decide_eq_true_eq]; omega
 refine GC.skip (GE.then_ (GC.seq (GC.region ?_)))
 refine G.stepD (OD.fieldAddr rfl rfl fa35_0) rfl rfl rfl ?_
 refine G.stepD (OD.load rfl ti3 rfl (i := 1) rfl rfl) rfl rfl rfl ?_
 refine G.stepD (OD.fieldAddr rfl rfl fa35_1) rfl rfl rfl ?_
 refine G.stepD (OD.load rfl ti3 rfl (i := 1) rfl rfl) rfl rfl rfl ?_
 refine G.stepD (OD.fieldAddr rfl rfl fa35_1) rfl rfl rfl ?_
 refine G.stepD (OD.load rfl ti3 rfl (i := 1) rfl rfl) rfl rfl rfl ?_
 refine G.step (OG.call [.int .i64 (ap), .int .i64 (ar), .int .i64 (ar)] ent68 rfl rfl rfl rfl (by exact (l1Zero_w (by omega)))) rfl rfl rfl ?_
 rintro _ _ ⟨v5, rfl, hs6, rfl⟩
 refine G.step (OG.alloc rfl ti35 (zs := [.int .i64 (0), .int .i64 (0), .int .i64 (0), .slice none 0 0]) rfl) rfl rfl rfl ?_
 rintro _ _ ⟨g7, rfl, rfl⟩
 refine G.stepD0 (OD.store rfl ti35 rfl rfl (us := [.int .i64 (ap), .int .i64 (ar), .int .i64 (ar), v5]) rfl rfl (allC rfl (allC rfl (allC rfl (allC (IsS.one hs6) rfl)))) (i := 0) rfl rfl) rfl rfl ?_
 refine G.nil (GE.then_ (GC.seq (GC.region ?_)))
 refine G.stepD (OD.fieldAddr rfl rfl fa35_0) rfl rfl rfl ?_
 refine G.stepD (OD.load rfl ti3 rfl (i := 3) rfl rfl) rfl rfl rfl ?_
 refine G.stepD (OD.fieldAddr rfl rfl fa35_1) rfl rfl rfl ?_
 refine G.stepD (OD.load rfl ti3 rfl (i := 3) rfl rfl) rfl rfl rfl ?_
 refine G.step (OG.call [.int .i64 (ap), .int .i64 (ar)] ent69 rfl rfl rfl rfl (by exact (l1Unit_ok (h3.1) (h3.2.1)))) rfl rfl rfl ?_
 rintro _ _ ⟨v8, rfl, hs9, rfl⟩
 refine G.step (OG.alloc rfl ti35 (zs := [.int .i64 (0), .int .i64 (0), .int .i64 (0), .slice none 0 0]) rfl) rfl rfl rfl ?_
 rintro _ _ ⟨g10, rfl, rfl⟩
 refine G.stepD0 (OD.store rfl ti35 rfl rfl (us := [.int .i64 (ap), .int .i64 (ar), .int .i64 (ar), v8]) rfl rfl (allC rfl (allC rfl (allC rfl (allC (IsS.one hs9) rfl)))) (i := 0) rfl rfl) rfl rfl ?_
 refine G.nil (GE.then_ (GC.seq (GC.seq (GC.region ?_))))
 refine G.stepD (OD.assign rfl rfl) rfl rfl rfl ?_
 refine G.nil (GE.then_ (GC.block ?_))
 refine GC.loop (ι := Nat × Int × List Int × Value × List Int × Value) (fun ⟨k, c, ys, v, zs, u⟩ => [(1, .pointer (some ⟨g1, 0, none⟩)), (2, .pointer (some ⟨g2, 0, none⟩)), (4, .int .i64 (nlF ⟨ap, ar, ac, ad⟩)), (5, .pointer (some ⟨g7, 0, none⟩)), (6, .pointer (some ⟨g10, 0, none⟩)), (7, .int .i64 ((k : Int) + 1))]) (fun ⟨k, c, ys, v, zs, u⟩ => box g10 35 [.int .i64 (ap), .int .i64 (ar), .int .i64 (c), u] :: ints 3 u zs :: box g7 35 [.int .i64 (ap), .int .i64 (ar), .int .i64 (ar), v] :: ints 3 v ys :: box g2 35 [.int .i64 (0), .int .i64 (0), .int .i64 (0), .slice none 0 0] :: box g1 35 [.int .i64 (ap), .int .i64 (ar), .int .i64 (ac), vad] :: own) (fun ⟨k, c, ys, v, zs, u⟩ => ((k : Int) ≤ nlF ⟨ap, ar, ac, ad⟩) ∧ (c = ar) ∧ (ys = exB ap ar ad k) ∧ (zs = tmA ap ar ad k) ∧ (IsS v) ∧ (IsS u)) (fun ⟨k, c, ys, v, zs, u⟩ => (nlF ⟨ap, ar, ac, ad⟩).toNat - k) (0, ar, List.replicate ((ar : Int) * ar).toNat 0, v5, (unI ar), v8) (⟨by omega, rfl, rfl, rfl, hs6, hs9⟩) ⟨rfl, rfl, rfl, rfl, rfl, int_eq (by omega), trivial⟩ [] 0 rfl ?_
 rintro ⟨k, c, ys, v, zs, u⟩ ⟨hk, hcc, hy, hz, hv, hu⟩
 have hyl : ys.length = (ar * ar).toNat := by rw [hy]; exact exB_len k
 have hyg : Rg ap ys := by rw [hy]; exact exB_rg (by omega) k
 have hzl : zs.length = (ar * ar).toNat := by rw [hz]; exact tmA_len _
 have hzg : Rg ap zs := by rw [hz]; exact tmA_rg ⟨by omega, by omega⟩ hg1 _
 have hul := mulF_len ap ar c ac zs ad
 have hug := mulF_rg (ar := ar) (ac := c) (bc := ac) ⟨by omega, by omega⟩ hzg hg1
 refine GC.seq (GC.seq (GC.region ?_))
 refine G.stepD (OD.move rfl rfl) rfl rfl rfl ?_
 refine G.stepD (OD.move rfl rfl) rfl rfl rfl ?_
 refine G.stepD (OD.leq rfl rfl rfl) rfl rfl rfl ?_
 refine G.nil (GE.then_ ?_)
 refine GC.cond rfl (fun hc11 => ?_) (fun hc11 => ?_)
 replace hc11 := of_decide_eq_true hc11
 refine GC.skip (GE.then_ (GC.seq (GC.block (GC.seq (GC.region ?_)))))
 refine G.stepD (OD.loadAgg rfl ti35 rfl (i := 2) rfl (us := [.int .i64 (ap), .int .i64 (ar), .int .i64 (ar), v]) rfl rfl) rfl rfl rfl ?_
 refine G.stepD (OD.loadAgg rfl ti35 rfl (i := 0) rfl (us := [.int .i64 (ap), .int .i64 (ar), .int .i64 (c), u]) rfl rfl) rfl rfl rfl ?_
 refine G.step (OG.call [.agg #[.int .i64 (ap), .int .i64 (ar), .int .i64 (ar), v], .agg #[.int .i64 (ap), .int .i64 (ar), .int .i64 (c), u]] ent61 rfl rfl rfl rfl (by exact (l1Add_s hv (Ent.ints (i := 3) rfl) hu (Ent.ints (i := 1) rfl) (small_of ⟨by omega, by omega⟩ (by omega) hyg) (small_of ⟨by omega, by omega⟩ (by omega) hzg) (by omega)))) rfl rfl rfl ?_
 rintro _ _ ⟨v12, rfl, hs13, rfl⟩
 refine G.stepD0 (OD.store rfl ti35 rfl rfl (us := [.int .i64 (ap), .int .i64 (ar), .int .i64 (ar), v12]) rfl rfl (allC rfl (allC rfl (allC rfl (allC (IsS.one hs13) rfl)))) (i := 3) rfl rfl) rfl rfl ?_
 refine G.nil (GE.then_ ?_)
 refine GC.at [] 0 (env' := [(1, .pointer (some ⟨g1, 0, none⟩)), (2, .pointer (some ⟨g2, 0, none⟩)), (4, .int .i64 (nlF ⟨ap, ar, ac, ad⟩)), (5, .pointer (some ⟨g7, 0, none⟩)), (6, .pointer (some ⟨g10, 0, none⟩)), (7, .int .i64 ((k : Int) + 1))]) ⟨rfl, rfl, rfl, rfl, rfl, rfl, trivial⟩ rfl ?_
 refine GC.par (its := [⟨39, [], [], [], [], fun _ => .agg #[.int .i64 (ap), .int .i64 (ar), .int .i64 (c), u], fun _ => True, fun _ => []⟩,
     ⟨40, [], [], [], [], fun _ => .agg #[.int .i64 (ap), .int .i64 (ar), .int .i64 (ac), vad], fun _ => True, fun _ => []⟩,
     ⟨41, [(0, 39), (1, 40)], [], [], [2], fun ds => .agg #[.int .i64 (ap), .int .i64 (ar), .int .i64 (ac), ((ds.getD 0 []).getD 0 undef)], fun ds => IsS ((ds.getD 0 []).getD 0 undef), fun ds => [ints 3 ((ds.getD 0 []).getD 0 undef) (mulF ap ar c ac zs ad)]⟩,
     ⟨42, [], [], [], [], fun _ => .int .i64 ((k : Int) + 1), fun _ => True, fun _ => []⟩,
     ⟨43, [], [], [], [], fun _ => .pointer (some ⟨g1, 0, none⟩), fun _ => True, fun _ => []⟩,
     ⟨44, [(4, 43)], [], [], [], fun _ => .int .i64 (ap), fun _ => True, fun _ => []⟩,
     ⟨45, [(3, 42), (5, 44)], [], [], [], fun _ => .int .i64 (ivO ((k : Int) + 1) ap), fun _ => True, fun _ => []⟩,
     ⟨46, [(2, 41), (6, 45)], [2], [], [2, 7], fun ds => .agg #[.int .i64 (ap), .int .i64 (ar), .int .i64 (ac), ((ds.getD 1 []).getD 0 undef)], fun ds => IsS ((ds.getD 1 []).getD 0 undef), fun ds => [ints 3 ((ds.getD 1 []).getD 0 undef) (((mulF ap ar c ac zs ad : List Int)).map (fun x => (x * (ivO ((k : Int) + 1) ap % ap)).tmod ap))]⟩]) (by kernel_rfl) (by kernel_rfl) (POps.cons ?_ (POps.cons ?_ (POps.cons ?_ (POps.cons ?_ (POps.cons ?_ (POps.cons ?_ (POps.cons ?_ (POps.cons ?_ POps.nil)))))))) ?_
 intro θ R hd
 exact Opp.plain (OG.imp (OD.loadAgg rfl ti35 rfl (i := 1) rfl (us := [.int .i64 (ap), .int .i64 (ar), .int .i64 (c), u]) rfl rfl) (by rintro _ _ ⟨rfl, rfl⟩; exact ⟨[], rfl, trivial, rfl⟩)) rfl
 intro θ R hd
 exact Opp.plain (OG.imp (OD.loadAgg rfl ti35 rfl (i := 6) rfl (us := [.int .i64 (ap), .int .i64 (ar), .int .i64 (ac), vad]) rfl rfl) (by rintro _ _ ⟨rfl, rfl⟩; exact ⟨[], rfl, trivial, rfl⟩)) rfl
 intro θ R hd
 obtain ⟨h0d, h1d, _⟩ := hd
 exact Opp.plain (OG.imp (OG.call [.agg #[.int .i64 (ap), .int .i64 (ar), .int .i64 (c), u], .agg #[.int .i64 (ap), .int .i64 (ar), .int .i64 (ac), vad]] ent70 rfl rfl rfl rfl (by exact (l1Mul_w hu (Ent.ints (i := 2) rfl) sad (Ent.drop 7 ead.app) (hr) (by omega) (hc) (by rw [hzl, hcc]; exact Int.toNat_of_nonneg hm1.1) (by rw [hal, hcc]) (by omega)))) (by rintro _ _ ⟨v14, rfl, hs15, rfl⟩; exact ⟨[v14], rfl, hs15, rfl⟩)) rfl
 intro θ R hd
 exact Opp.plain (OG.imp (OD.move rfl rfl) (by rintro _ _ ⟨rfl, rfl⟩; exact ⟨[], rfl, trivial, rfl⟩)) rfl
 intro θ R hd
 exact Opp.plain (OG.imp (OD.fieldAddr rfl rfl fa35_0) (by rintro _ _ ⟨rfl, rfl⟩; exact ⟨[], rfl, trivial, rfl⟩)) rfl
 intro θ R hd
 obtain ⟨h4d, _⟩ := hd
 exact Opp.plain (OG.imp (OD.load rfl ti3 rfl (i := 6) rfl rfl) (by rintro _ _ ⟨rfl, rfl⟩; exact ⟨[], rfl, trivial, rfl⟩)) rfl
 intro θ R hd
 obtain ⟨h3d, h5d, _⟩ := hd
 exact Opp.plain (OG.imp (OG.call [.int .i64 ((k : Int) + 1), .int .i64 (ap)] ent71 rfl rfl rfl rfl (by exact (inverseOf_ok (h3.1) (by omega)))) (by rintro _ _ ⟨rfl, rfl⟩; exact ⟨[], rfl, trivial, rfl⟩)) rfl
 intro θ R hd
 obtain ⟨h2d, h6d, _⟩ := hd
 exact Opp.plain (OG.imp (OG.call [.agg #[.int .i64 (ap), .int .i64 (ar), .int .i64 (ac), ((θ 2).getD 0 undef)], .int .i64 (ivO ((k : Int) + 1) ap)] ent64 rfl rfl rfl rfl (by exact (l1Scale_s h2d (Ent.ints (i := 0) rfl) (by omega) (⟨by rw [hul]; omega, fun i => by have h9 := hug i; omega⟩)))) (by rintro _ _ ⟨v16, rfl, hs17, rfl⟩; exact ⟨[v16], rfl, hs17, rfl⟩)) rfl
 intro θ hall
 obtain ⟨_, _, h2a, _, _, _, _, h7a, _⟩ := hall
 refine G.at [] 0 (env' := [(1, .pointer (some ⟨g1, 0, none⟩)), (2, .pointer (some ⟨g2, 0, none⟩)), (4, .int .i64 (nlF ⟨ap, ar, ac, ad⟩)), (5, .pointer (some ⟨g7, 0, none⟩)), (6, .pointer (some ⟨g10, 0, none⟩)), (7, .int .i64 ((k : Int) + 1)), (46, .agg #[.int .i64 (ap), .int .i64 (ar), .int .i64 (ac), ((θ 7).getD 0 undef)])]) ⟨rfl, rfl, rfl, rfl, rfl, rfl, rfl, trivial⟩ (own' := ints 3 ((θ 2).getD 0 undef) (mulF ap ar c ac zs ad) :: ints 3 ((θ 7).getD 0 undef) (((mulF ap ar c ac zs ad : List Int)).map (fun x => (x * (ivO ((k : Int) + 1) ap % ap)).tmod ap)) :: ints 3 v12 (addF 1 ap ys zs) :: box g10 35 [.int .i64 (ap), .int .i64 (ar), .int .i64 (c), u] :: ints 3 u zs :: box g7 35 [.int .i64 (ap), .int .i64 (ar), .int .i64 (ar), v12] :: ints 3 v ys :: box g2 35 [.int .i64 (0), .int .i64 (0), .int .i64 (0), .slice none 0 0] :: box g1 35 [.int .i64 (ap), .int .i64 (ar), .int .i64 (ac), vad] :: own) rfl ?_
 have hs18 : IsS ((θ 2).getD 0 undef) := h2a
 clear h2a
 generalize ((θ 2).getD 0 undef) = v19 at *
 have hs20 : IsS ((θ 7).getD 0 undef) := h7a
 clear h7a
 generalize ((θ 7).getD 0 undef) = v21 at *
 show G _ _ _ [_] _ _ _ _
 refine G.stepD0 (OD.store rfl ti35 rfl rfl (us := [.int .i64 (ap), .int .i64 (ar), .int .i64 (ac), v21]) rfl rfl (allC rfl (allC rfl (allC rfl (allC (IsS.one hs20) rfl)))) (i := 3) rfl rfl) rfl rfl ?_
 refine G.nil (GE.blockN (GE.then_ (GC.region ?_)))
 refine G.stepD (OD.move rfl rfl) rfl rfl rfl ?_
 refine G.stepD (OD.addI rfl rfl rfl (by omega)) rfl rfl rfl ?_
 refine G.stepD (OD.assign rfl rfl) rfl rfl rfl ?_
 refine G.nil ?_
 exact GE.again (k + 1, ac, addF 1 ap ys zs, v12, ((mulF ap ar c ac zs ad : List Int)).map (fun x => (x * (ivO ((k : Int) + 1) ap % ap)).tmod ap), v21) (⟨by omega, h4.symm, by rw [hy, hz]; rfl, by rw [hz, hcc, ← h4]; rfl, hs13, hs20⟩) (by first | omega | (dsimp only; omega)) ⟨rfl, rfl, rfl, rfl, rfl, int_eq (by omega), trivial⟩ [3, 1, 3, 1, 3, 3] 3 rfl
 replace hc11 := of_decide_eq_false hc11
 have hNb := (nlF_ok (M := ⟨ap, ar, ac, ad⟩) (by omega)).2.2
 have h1 : matOkB ⟨ap, ar, ac, ad⟩ = true := (nlF_ok (M := ⟨ap, ar, ac, ad⟩) (by omega)).1
 have h4 : ar = ac := (nlF_ok (M := ⟨ap, ar, ac, ad⟩) (by omega)).2.1
 obtain ⟨hr, hc, hal, hap⟩ := matOk_dim h1
 have hg1 := matOk_rg h1
 have h3 := matOk_three h1
 have hp2 := primeB_range h3.1
 simp only at hr hc hal hap hg1 h3 hp2
 have hm1 := mulBd (A := 40) (B := 40) hr hr
 have hal2 : (ad.length : Int) = ar * ar := by rw [hal, ← h4]
 have hm2 : ar * ac = ar * ar := by rw [← h4]
 have hok : exOk ⟨ap, ar, ac, ad⟩ = true := by simp only [exOk, Bool.and_eq_true, decide_eq_true_eq]; omega
 refine GC.exit (GE.pass (GE.pass (GE.hit (GE.then_ (GC.seq (GC.region ?_))))))
 refine G.stepD (OD.loadAgg rfl ti35 rfl (i := 2) rfl (us := [.int .i64 (ap), .int .i64 (ar), .int .i64 (ar), v]) rfl rfl) rfl rfl rfl ?_
 refine G.stepD0 (OD.store rfl ti35 rfl rfl (us := [.int .i64 (ap), .int .i64 (ar), .int .i64 (ar), v]) rfl rfl (allC rfl (allC rfl (allC rfl (allC (IsS.one hv) rfl)))) (i := 4) rfl rfl) rfl rfl ?_
 refine G.stepD (OD.assign rfl rfl) rfl rfl rfl ?_
 refine G.nil (GE.then_ (GC.ret ?_))
 exact GE.body [3] 5 (resN rfl (RVs.cons (rv_cells ti35 rfl (i := 4) rfl rfl) (RVs.cons (rv_tmp rfl) RVs.nil)) rfl) rfl (⟨v, congr (congr (congr (congrArg (fun (a0 : Int) (a1 : Int) (a2 : Int) (a4 : Bool) => (.tuple #[.agg #[.int .i64 (a0), .int .i64 (a1), .int .i64 (a2), v], .bool (a4)] : Value)) ((by rw [exF, if_pos hok] : (ap : Int) = (exF ⟨ap, ar, ac, ad⟩).p))) ((by rw [exF, if_pos hok] : (ar : Int) = (exF ⟨ap, ar, ac, ad⟩).r))) ((by rw [exF, if_pos hok] : (ar : Int) = (exF ⟨ap, ar, ac, ad⟩).c))) ((hok.symm : (true : Bool) = exOk ⟨ap, ar, ac, ad⟩)), hv, congrArg (fun (l0 : List Int) => ints 3 v l0 :: own) ((by rw [exF, if_pos hok, hy, show k = (nlF ⟨ap, ar, ac, ad⟩).toNat by omega]; exact (ex_same (show matOkB ⟨ap, ar, ar, ad⟩ = true by rw [← h4] at h1; exact h1) (by omega) (by omega)).symm : ys = (exF ⟨ap, ar, ac, ad⟩).d))⟩)

set_option maxHeartbeats 4000000 in
set_option maxRecDepth 100000 in
theorem lawExpMatrix {W : World} {own : List Asn} {ap : Int} {ar : Int} {ac : Int} {vad : Value} {ad : List Int}  (sad : IsS vad) (ead : Ent own fun w => Ints w vad ad)  (hl : ad.length ≤ 9223372036854775807) : Spec Try.prog 8 [.agg #[.int .i64 (ap), .int .i64 (ar), .int .i64 (ac), vad]] W own (fun v ow => v = .bool (true) ∧ ow = own) := by
 have hlen := exF_len ⟨ap, ar, ac, ad⟩
 refine Spec.enter Try.f8 _ Try.func8 rfl (n := 96) rfl rfl ?_
 refine GC.seq (GC.region ?_)
 refine G.step (OG.box (cs := [.int .i64 (ap), .int .i64 (ar), .int .i64 (ac), vad]) rfl rfl rfl) rfl rfl rfl ?_
 rintro _ _ ⟨g1, rfl, rfl⟩
 refine G.stepD (OD.assign rfl rfl) rfl rfl rfl ?_
 refine G.nil (GE.then_ (GC.seq (GC.region ?_)))
 refine G.stepD (OD.assign rfl rfl) rfl rfl rfl ?_
 refine G.nil (GE.then_ (GC.seq (GC.region ?_)))
 refine G.stepD (OD.loadAgg rfl ti44 rfl (i := 0) rfl (us := [.int .i64 (ap), .int .i64 (ar), .int .i64 (ac), vad]) rfl rfl) rfl rfl rfl ?_
 refine G.stepD (OD.move rfl rfl) rfl rfl rfl ?_
 refine G.step (OG.call [.agg #[.int .i64 (ap), .int .i64 (ar), .int .i64 (ac), vad], .int .i64 (1048576)] ent24 rfl rfl rfl rfl (by exact (szMatrix_s sad (Ent.drop 1 ead) (by omega) (by omega)))) rfl rfl rfl ?_
 rintro _ _ ⟨rfl, rfl⟩
 refine G.stepD (OD.assign rfl rfl) rfl rfl rfl ?_
 refine G.nil (GE.then_ (GC.seq (GC.seq (GC.region ?_))))
 refine G.stepD (OD.move rfl rfl) rfl rfl rfl ?_
 refine G.stepD (OD.lss rfl rfl rfl) rfl rfl rfl ?_
 refine G.nil (GE.then_ ?_)
 refine GC.cond rfl (fun hc2 => ?_) (fun hc2 => ?_)
 replace hc2 := of_decide_eq_true hc2
 refine GC.seq (GC.region ?_)
 refine G.stepD (OD.assign rfl rfl) rfl rfl rfl ?_
 refine G.nil (GE.then_ (GC.ret (GE.passR ?_)))
 exact GE.body [] 1 (res1 rfl rfl) rfl (⟨rfl, rfl⟩)
 replace hc2 := of_decide_eq_false hc2
 have hc2z := szG_ok hc2
 refine GC.skip (GE.then_ (GC.seq (GC.region ?_)))
 refine G.stepD (OD.loadAgg rfl ti44 rfl (i := 0) rfl (us := [.int .i64 (ap), .int .i64 (ar), .int .i64 (ac), vad]) rfl rfl) rfl rfl rfl ?_
 refine G.step (OG.call [.agg #[.int .i64 (ap), .int .i64 (ar), .int .i64 (ac), vad]] ent26 rfl rfl rfl rfl (by exact (toMatrix_s sad (Ent.drop 1 ead) (by omega)))) rfl rfl rfl ?_
 rintro _ _ ⟨v3, rfl, hs4, rfl⟩
 refine G.step (OG.call [.agg #[.int .i64 (ap), .int .i64 (ar), .int .i64 (ac), v3]] ent34 rfl rfl rfl rfl (by exact (specExpMatrix_w hs4 (Ent.ints (i := 0) rfl)))) rfl rfl rfl ?_
 rintro _ _ ⟨v5, rfl, hs6, rfl⟩
 refine G.stepD (OD.move rfl rfl) rfl rfl rfl ?_
 refine G.stepD (OD.extract rfl rfl rfl) rfl rfl rfl ?_
 refine G.stepD (OD.extract rfl rfl rfl) rfl rfl rfl ?_
 refine G.step (OG.alloc rfl ti35 (zs := [.int .i64 (0), .int .i64 (0), .int .i64 (0), .slice none 0 0]) rfl) rfl rfl rfl ?_
 rintro _ _ ⟨g7, rfl, rfl⟩
 refine G.stepD0 (OD.store rfl ti35 rfl rfl (us := [.int .i64 ((exF ⟨ap, ar, ac, ad⟩).p), .int .i64 ((exF ⟨ap, ar, ac, ad⟩).r), .int .i64 ((exF ⟨ap, ar, ac, ad⟩).c), v5]) rfl rfl (allC rfl (allC rfl (allC rfl (allC (IsS.one hs6) rfl)))) (i := 0) rfl rfl) rfl rfl ?_
 refine G.stepD (OD.assign rfl rfl) rfl rfl rfl ?_
 refine G.nil (GE.then_ (GC.seq (GC.region ?_)))
 refine G.stepD (OD.loadAgg rfl ti44 rfl (i := 3) rfl (us := [.int .i64 (ap), .int .i64 (ar), .int .i64 (ac), vad]) rfl rfl) rfl rfl rfl ?_
 refine G.step (OG.call [.agg #[.int .i64 (ap), .int .i64 (ar), .int .i64 (ac), vad]] ent26 rfl rfl rfl rfl (by exact (toMatrix_s sad (Ent.drop 4 ead) (by omega)))) rfl rfl rfl ?_
 rintro _ _ ⟨v8, rfl, hs9, rfl⟩
 refine G.step (OG.alloc rfl ti35 (zs := [.int .i64 (0), .int .i64 (0), .int .i64 (0), .slice none 0 0]) rfl) rfl rfl rfl ?_
 rintro _ _ ⟨g10, rfl, rfl⟩
 refine G.stepD0 (OD.store rfl ti35 rfl rfl (us := [.int .i64 (ap), .int .i64 (ar), .int .i64 (ac), v8]) rfl rfl (allC rfl (allC rfl (allC rfl (allC (IsS.one hs9) rfl)))) (i := 0) rfl rfl) rfl rfl ?_
 refine G.nil (GE.then_ (GC.seq (GC.region ?_)))
 refine G.stepD (OD.loadAgg rfl ti35 rfl (i := 0) rfl (us := [.int .i64 (ap), .int .i64 (ar), .int .i64 (ac), v8]) rfl rfl) rfl rfl rfl ?_
 refine G.step (OG.call [.agg #[.int .i64 (ap), .int .i64 (ar), .int .i64 (ac), v8]] ent35 rfl rfl rfl rfl (by exact (expMatrix_w hs9 (Ent.ints (i := 1) rfl)))) rfl rfl rfl ?_
 rintro _ _ ⟨v11, rfl, hs12, rfl⟩
 refine G.stepD (OD.move rfl rfl) rfl rfl rfl ?_
 refine G.stepD (OD.extract rfl rfl rfl) rfl rfl rfl ?_
 refine G.stepD (OD.extract rfl rfl rfl) rfl rfl rfl ?_
 refine G.step (OG.alloc rfl ti35 (zs := [.int .i64 (0), .int .i64 (0), .int .i64 (0), .slice none 0 0]) rfl) rfl rfl rfl ?_
 rintro _ _ ⟨g13, rfl, rfl⟩
 refine G.stepD0 (OD.store rfl ti35 rfl rfl (us := [.int .i64 ((exF ⟨ap, ar, ac, ad⟩).p), .int .i64 ((exF ⟨ap, ar, ac, ad⟩).r), .int .i64 ((exF ⟨ap, ar, ac, ad⟩).c), v11]) rfl rfl (allC rfl (allC rfl (allC rfl (allC (IsS.one hs12) rfl)))) (i := 0) rfl rfl) rfl rfl ?_
 refine G.stepD (OD.assign rfl rfl) rfl rfl rfl ?_
 refine G.nil (GE.then_ (GC.seq (GC.seq (GC.region ?_))))
 refine G.stepD (OD.loadAgg rfl ti35 rfl (i := 0) rfl (us := [.int .i64 ((exF ⟨ap, ar, ac, ad⟩).p), .int .i64 ((exF ⟨ap, ar, ac, ad⟩).r), .int .i64 ((exF ⟨ap, ar, ac, ad⟩).c), v11]) rfl rfl) rfl rfl rfl ?_
 refine G.stepD (OD.loadAgg rfl ti35 rfl (i := 4) rfl (us := [.int .i64 ((exF ⟨ap, ar, ac, ad⟩).p), .int .i64 ((exF ⟨ap, ar, ac, ad⟩).r), .int .i64 ((exF ⟨ap, ar, ac, ad⟩).c), v5]) rfl rfl) rfl rfl rfl ?_
 refine G.step (OG.call [.agg #[.int .i64 ((exF ⟨ap, ar, ac, ad⟩).p), .int .i64 ((exF ⟨ap, ar, ac, ad⟩).r), .int .i64 ((exF ⟨ap, ar, ac, ad⟩).c), v11], .agg #[.int .i64 ((exF ⟨ap, ar, ac, ad⟩).p), .int .i64 ((exF ⟨ap, ar, ac, ad⟩).r), .int .i64 ((exF ⟨ap, ar, ac, ad⟩).c), v5]] ent27 rfl rfl rfl rfl (by exact (eqMatrix_same hs12 (Ent.ints (i := 1) rfl) hs6 (Ent.ints (i := 5) rfl) (by omega)))) rfl rfl rfl ?_
 rintro _ _ ⟨rfl, rfl⟩
 refine G.stepD (OD.not rfl rfl) rfl rfl rfl ?_
 refine G.stepD (OD.move rfl rfl) rfl rfl rfl ?_
 refine G.stepGD (OD.move rfl rfl) rfl rfl rfl rfl rfl ?_
 refine G.stepGD (OD.move rfl rfl) rfl rfl rfl rfl rfl ?_
 refine G.stepGD (OD.eqv (OD.neqB bt4 rfl rfl rfl) (congrArg Value.bool (bneB_same _))) rfl rfl rfl rfl rfl ?_
 refine G.stepD (OD.pickF rfl rfl rfl) rfl rfl rfl ?_
 refine G.nil (GE.then_ (GC.condF rfl (GC.skip (GE.then_ (GC.seq (GC.seq ?_))))))
 refine GC.at [] 0 (env' := [(1, .pointer (some ⟨g1, 0, none⟩)), (4, .pointer (some ⟨g7, 0, none⟩)), (5, .bool (exOk ⟨ap, ar, ac, ad⟩)), (6, .pointer (some ⟨g10, 0, none⟩)), (7, .pointer (some ⟨g13, 0, none⟩)), (8, .bool (exOk ⟨ap, ar, ac, ad⟩))]) ⟨rfl, rfl, rfl, rfl, rfl, rfl, trivial⟩ rfl ?_
 refine GC.par (its := [⟨41, [], [], [], [], fun _ => .agg #[.int .i64 (ap), .int .i64 (ar), .int .i64 (ac), v8], fun _ => True, fun _ => []⟩,
     ⟨42, [], [], [], [], fun _ => .agg #[.int .i64 (ap), .int .i64 (ar), .int .i64 (ac), vad], fun _ => True, fun _ => []⟩,
     ⟨43, [(1, 42)], [], [], [2], fun ds => .agg #[.int .i64 (ap), .int .i64 (ar), .int .i64 (ac), ((ds.getD 0 []).getD 0 undef)], fun ds => IsS ((ds.getD 0 []).getD 0 undef), fun ds => [ints 3 ((ds.getD 0 []).getD 0 undef) ad]⟩,
     ⟨44, [(0, 41), (2, 43)], [2], [], [2], fun _ => .bool true, fun _ => True, fun _ => []⟩,
     ⟨45, [(3, 44)], [2], [], [2], fun _ => .bool false, fun _ => True, fun _ => []⟩]) (by kernel_rfl) (by kernel_rfl) (POps.cons ?_ (POps.cons ?_ (POps.cons ?_ (POps.cons ?_ (POps.cons ?_ POps.nil))))) ?_
 intro θ R hd
 exact Opp.plain (OG.imp (OD.loadAgg rfl ti35 rfl (i := 2) rfl (us := [.int .i64 (ap), .int .i64 (ar), .int .i64 (ac), v8]) rfl rfl) (by rintro _ _ ⟨rfl, rfl⟩; exact ⟨[], rfl, trivial, rfl⟩)) rfl
 intro θ R hd
 exact Opp.plain (OG.imp (OD.loadAgg rfl ti44 rfl (i := 7) rfl (us := [.int .i64 (ap), .int .i64 (ar), .int .i64 (ac), vad]) rfl rfl) (by rintro _ _ ⟨rfl, rfl⟩; exact ⟨[], rfl, trivial, rfl⟩)) rfl
 intro θ R hd
 obtain ⟨h1d, _⟩ := hd
 exact Opp.plain (OG.imp (OG.call [.agg #[.int .i64 (ap), .int .i64 (ar), .int .i64 (ac), vad]] ent26 rfl rfl rfl rfl (by exact (toMatrix_s sad (Ent.drop 8 ead.app) (by omega)))) (by rintro _ _ ⟨v14, rfl, hs15, rfl⟩; exact ⟨[v14], rfl, hs15, rfl⟩)) rfl
 intro θ R hd
 obtain ⟨h0d, h2d, _⟩ := hd
 exact Opp.plain (OG.imp (OG.call [.agg #[.int .i64 (ap), .int .i64 (ar), .int .i64 (ac), v8], .agg #[.int .i64 (ap), .int .i64 (ar), .int .i64 (ac), ((θ 2).getD 0 undef)]] ent27 rfl rfl rfl rfl (by exact (eqMatrix_same hs9 (Ent.ints (i := 4) rfl) h2d (Ent.ints (i := 0) rfl) (by omega)))) (by rintro _ _ ⟨rfl, rfl⟩; exact ⟨[], rfl, trivial, rfl⟩)) rfl
 intro θ R hd
 obtain ⟨h3d, _⟩ := hd
 exact Opp.plain (OG.imp (OD.not rfl rfl) (by rintro _ _ ⟨rfl, rfl⟩; exact ⟨[], rfl, trivial, rfl⟩)) rfl
 intro θ hall
 obtain ⟨_, _, h2a, _, _, _⟩ := hall
 refine G.at [] 0 (env' := [(1, .pointer (some ⟨g1, 0, none⟩)), (4, .pointer (some ⟨g7, 0, none⟩)), (5, .bool (exOk ⟨ap, ar, ac, ad⟩)), (6, .pointer (some ⟨g10, 0, none⟩)), (7, .pointer (some ⟨g13, 0, none⟩)), (8, .bool (exOk ⟨ap, ar, ac, ad⟩)), (45, .bool false)]) ⟨rfl, rfl, rfl, rfl, rfl, rfl, rfl, trivial⟩ (own' := ints 3 ((θ 2).getD 0 undef) ad :: box g13 35 [.int .i64 ((exF ⟨ap, ar, ac, ad⟩).p), .int .i64 ((exF ⟨ap, ar, ac, ad⟩).r), .int .i64 ((exF ⟨ap, ar, ac, ad⟩).c), v11] :: ints 3 v11 ((exF ⟨ap, ar, ac, ad⟩).d) :: box g10 35 [.int .i64 (ap), .int .i64 (ar), .int .i64 (ac), v8] :: ints 3 v8 ad :: box g7 35 [.int .i64 ((exF ⟨ap, ar, ac, ad⟩).p), .int .i64 ((exF ⟨ap, ar, ac, ad⟩).r), .int .i64 ((exF ⟨ap, ar, ac, ad⟩).c), v5] :: ints 3 v5 ((exF ⟨ap, ar, ac, ad⟩).d) :: ints 3 v3 ad :: box g1 44 [.int .i64 (ap), .int .i64 (ar), .int .i64 (ac), vad] :: own) rfl ?_
 have hs16 : IsS ((θ 2).getD 0 undef) := h2a
 clear h2a
 generalize ((θ 2).getD 0 undef) = v17 at *
 show G _ _ _ [] _ _ _ _
 refine G.nil (GE.then_ (GC.condF rfl (GC.skip (GE.then_ (GC.seq (GC.region ?_))))))
 refine G.stepD (OD.assign rfl rfl) rfl rfl rfl ?_
 refine G.nil (GE.then_ (GC.seq (GC.region ?_)))
 refine G.stepD (OD.loadAgg rfl ti35 rfl (i := 3) rfl (us := [.int .i64 (ap), .int .i64 (ar), .int .i64 (ac), v8]) rfl rfl) rfl rfl rfl ?_
 refine G.stepD (OD.move rfl rfl) rfl rfl rfl ?_
 refine G.at [4] 0 (env' := [(1, .pointer (some ⟨g1, 0, none⟩)), (4, .pointer (some ⟨g7, 0, none⟩)), (5, .bool (exOk ⟨ap, ar, ac, ad⟩)), (6, .pointer (some ⟨g10, 0, none⟩)), (7, .pointer (some ⟨g13, 0, none⟩)), (8, .bool (exOk ⟨ap, ar, ac, ad⟩)), (45, .bool false), (9, .int .i64 (1)), (46, .agg #[.int .i64 (ap), .int .i64 (ar), .int .i64 (ac), v8]), (47, .int .i64 (1))]) ⟨rfl, rfl, rfl, rfl, rfl, rfl, rfl, rfl, rfl, rfl, trivial⟩ (own' := ints 3 v8 ad :: ints 3 v17 ad :: box g13 35 [.int .i64 ((exF ⟨ap, ar, ac, ad⟩).p), .int .i64 ((exF ⟨ap, ar, ac, ad⟩).r), .int .i64 ((exF ⟨ap, ar, ac, ad⟩).c), v11] :: ints 3 v11 ((exF ⟨ap, ar, ac, ad⟩).d) :: box g10 35 [.int .i64 (ap), .int .i64 (ar), .int .i64 (ac), v8] :: box g7 35 [.int .i64 ((exF ⟨ap, ar, ac, ad⟩).p), .int .i64 ((exF ⟨ap, ar, ac, ad⟩).r), .int .i64 ((exF ⟨ap, ar, ac, ad⟩).c), v5] :: ints 3 v5 ((exF ⟨ap, ar, ac, ad⟩).d) :: ints 3 v3 ad :: box g1 44 [.int .i64 (ap), .int .i64 (ar), .int .i64 (ac), vad] :: own) rfl ?_
 refine G.step (OG.call [.agg #[.int .i64 (ap), .int .i64 (ar), .int .i64 (ac), v8], .int .i64 (1)] ent28 rfl rfl rfl rfl (by exact (markMatrix_s hs9 (by omega) (by omega)))) rfl rfl rfl ?_
 rintro _ _ ⟨rfl, rfl⟩
 refine G.stepD (OD.assign rfl rfl) rfl rfl rfl ?_
 refine G.nil (GE.then_ (GC.seq (GC.seq (GC.region ?_))))
 refine G.stepD (OD.move rfl rfl) rfl rfl rfl ?_
 refine G.stepD (OD.eqv (OD.lss rfl rfl rfl) (congrArg Value.bool ((decide_eq_false (by omega)) : _ = false))) rfl rfl rfl ?_
 refine G.stepD (OD.move rfl rfl) rfl rfl rfl ?_
 refine G.stepGD (OD.loadAgg rfl ti35 rfl (i := 2) rfl (us := [.int .i64 ((exF ⟨ap, ar, ac, ad⟩).p), .int .i64 ((exF ⟨ap, ar, ac, ad⟩).r), .int .i64 ((exF ⟨ap, ar, ac, ad⟩).c), v11]) rfl rfl) rfl rfl rfl rfl rfl ?_
 refine G.stepGD (OD.loadAgg rfl ti35 rfl (i := 5) rfl (us := [.int .i64 ((exF ⟨ap, ar, ac, ad⟩).p), .int .i64 ((exF ⟨ap, ar, ac, ad⟩).r), .int .i64 ((exF ⟨ap, ar, ac, ad⟩).c), v5]) rfl rfl) rfl rfl rfl rfl rfl ?_
 refine G.stepG (OG.call [.agg #[.int .i64 ((exF ⟨ap, ar, ac, ad⟩).p), .int .i64 ((exF ⟨ap, ar, ac, ad⟩).r), .int .i64 ((exF ⟨ap, ar, ac, ad⟩).c), v11], .agg #[.int .i64 ((exF ⟨ap, ar, ac, ad⟩).p), .int .i64 ((exF ⟨ap, ar, ac, ad⟩).r), .int .i64 ((exF ⟨ap, ar, ac, ad⟩).c), v5]] ent27 rfl rfl rfl rfl (by exact (eqMatrix_same hs12 (Ent.ints (i := 3) rfl) hs6 (Ent.ints (i := 6) rfl) (by omega)))) rfl rfl rfl rfl rfl ?_
 rintro _ _ ⟨rfl, rfl⟩
 refine G.stepGD (OD.not rfl rfl) rfl rfl rfl rfl rfl ?_
 refine G.stepD (OD.pickF rfl rfl rfl) rfl rfl rfl ?_
 refine G.stepD (OD.move rfl rfl) rfl rfl rfl ?_
 refine G.stepGD (OD.move rfl rfl) rfl rfl rfl rfl rfl ?_
 refine G.stepGD (OD.move rfl rfl) rfl rfl rfl rfl rfl ?_
 refine G.stepGD (OD.eqv (OD.neqB bt4 rfl rfl rfl) (congrArg Value.bool (bneB_same _))) rfl rfl rfl rfl rfl ?_
 refine G.stepD (OD.pickF rfl rfl rfl) rfl rfl rfl ?_
 refine G.nil (GE.then_ (GC.condF rfl (GC.skip (GE.then_ (GC.seq (GC.region ?_))))))
 refine G.stepD (OD.assign rfl rfl) rfl rfl rfl ?_
 refine G.nil (GE.then_ (GC.seq (GC.region ?_)))
 refine G.stepD (OD.loadAgg rfl ti35 rfl (i := 2) rfl (us := [.int .i64 ((exF ⟨ap, ar, ac, ad⟩).p), .int .i64 ((exF ⟨ap, ar, ac, ad⟩).r), .int .i64 ((exF ⟨ap, ar, ac, ad⟩).c), v11]) rfl rfl) rfl rfl rfl ?_
 refine G.stepD (OD.move rfl rfl) rfl rfl rfl ?_
 refine G.at [3] 0 (env' := [(1, .pointer (some ⟨g1, 0, none⟩)), (4, .pointer (some ⟨g7, 0, none⟩)), (5, .bool (exOk ⟨ap, ar, ac, ad⟩)), (6, .pointer (some ⟨g10, 0, none⟩)), (7, .pointer (some ⟨g13, 0, none⟩)), (8, .bool (exOk ⟨ap, ar, ac, ad⟩)), (45, .bool false), (46, .agg #[.int .i64 (ap), .int .i64 (ar), .int .i64 (ac), v8]), (47, .int .i64 (1)), (48, .int .i64 (1 + (ad.length : Nat))), (9, .int .i64 (1 + (ad.length : Nat))), (49, .int .i64 (1 + (ad.length : Nat))), (50, .bool false), (51, .bool false), (52, .agg #[.int .i64 ((exF ⟨ap, ar, ac, ad⟩).p), .int .i64 ((exF ⟨ap, ar, ac, ad⟩).r), .int .i64 ((exF ⟨ap, ar, ac, ad⟩).c), v11]), (53, .agg #[.int .i64 ((exF ⟨ap, ar, ac, ad⟩).p), .int .i64 ((exF ⟨ap, ar, ac, ad⟩).r), .int .i64 ((exF ⟨ap, ar, ac, ad⟩).c), v5]), (54, .bool true), (55, .bool false), (56, .bool false), (57, .bool false), (58, .bool (exOk ⟨ap, ar, ac, ad⟩)), (59, .bool (exOk ⟨ap, ar, ac, ad⟩)), (60, .bool false), (61, .bool false), (10, .int .i64 (1)), (62, .agg #[.int .i64 ((exF ⟨ap, ar, ac, ad⟩).p), .int .i64 ((exF ⟨ap, ar, ac, ad⟩).r), .int .i64 ((exF ⟨ap, ar, ac, ad⟩).c), v11]), (63, .int .i64 (1))]) ⟨rfl, rfl, rfl, rfl, rfl, rfl, rfl, rfl, rfl, rfl, rfl, rfl, rfl, rfl, rfl, rfl, rfl, rfl, rfl, rfl, rfl, rfl, rfl, rfl, rfl, rfl, rfl, trivial⟩ (own' := ints 3 v11 ((exF ⟨ap, ar, ac, ad⟩).d) :: ints 3 v8 (mkd 1 ad.length) :: ints 3 v17 ad :: box g13 35 [.int .i64 ((exF ⟨ap, ar, ac, ad⟩).p), .int .i64 ((exF ⟨ap, ar, ac, ad⟩).r), .int .i64 ((exF ⟨ap, ar, ac, ad⟩).c), v11] :: box g10 35 [.int .i64 (ap), .int .i64 (ar), .int .i64 (ac), v8] :: box g7 35 [.int .i64 ((exF ⟨ap, ar, ac, ad⟩).p), .int .i64 ((exF ⟨ap, ar, ac, ad⟩).r), .int .i64 ((exF ⟨ap, ar, ac, ad⟩).c), v5] :: ints 3 v5 ((exF ⟨ap, ar, ac, ad⟩).d) :: ints 3 v3 ad :: box g1 44 [.int .i64 (ap), .int .i64 (ar), .int .i64 (ac), vad] :: own) rfl ?_
 refine G.step (OG.call [.agg #[.int .i64 ((exF ⟨ap, ar, ac, ad⟩).p), .int .i64 ((exF ⟨ap, ar, ac, ad⟩).r), .int .i64 ((exF ⟨ap, ar, ac, ad⟩).c), v11], .int .i64 (1)] ent28 rfl rfl rfl rfl (by exact (markMatrix_s hs12 (by omega) (by omega)))) rfl rfl rfl ?_
 rintro _ _ ⟨rfl, rfl⟩
 refine G.stepD (OD.assign rfl rfl) rfl rfl rfl ?_
 refine G.nil (GE.then_ (GC.seq (GC.region ?_)))
 refine G.stepD (OD.assign rfl rfl) rfl rfl rfl ?_
 refine G.nil (GE.then_ (GC.seq (GC.region ?_)))
 refine G.stepD (OD.loadAgg rfl ti35 rfl (i := 3) rfl (us := [.int .i64 ((exF ⟨ap, ar, ac, ad⟩).p), .int .i64 ((exF ⟨ap, ar, ac, ad⟩).r), .int .i64 ((exF ⟨ap, ar, ac, ad⟩).c), v11]) rfl rfl) rfl rfl rfl ?_
 refine G.stepD (OD.move rfl rfl) rfl rfl rfl ?_
 refine G.step (OG.call [.agg #[.int .i64 ((exF ⟨ap, ar, ac, ad⟩).p), .int .i64 ((exF ⟨ap, ar, ac, ad⟩).r), .int .i64 ((exF ⟨ap, ar, ac, ad⟩).c), v11], .int .i64 (1)] ent29 rfl rfl rfl rfl (by exact (heldMatrix_m hs12 (Ent.ints (i := 0) rfl) (by omega) (by omega)))) rfl rfl rfl ?_
 rintro _ _ ⟨rfl, rfl⟩
 refine G.stepD (OD.assign rfl rfl) rfl rfl rfl ?_
 refine G.nil (GE.then_ (GC.seq (GC.seq (GC.region ?_))))
 refine G.stepD (OD.move rfl rfl) rfl rfl rfl ?_
 refine G.stepD (OD.eqv (OD.lss rfl rfl rfl) (congrArg Value.bool ((decide_eq_false (by omega)) : _ = false))) rfl rfl rfl ?_
 refine G.nil (GE.then_ (GC.condF rfl (GC.skip (GE.then_ (GC.seq (GC.seq (GC.region ?_)))))))
 refine G.stepD (OD.move rfl rfl) rfl rfl rfl ?_
 refine G.stepD (OD.move rfl rfl) rfl rfl rfl ?_
 refine G.stepD (OD.eqv (OD.neq rfl rfl rfl) (congrArg Value.bool ((bne_same _) : _ = false))) rfl rfl rfl ?_
 refine G.nil (GE.then_ (GC.condF rfl (GC.skip (GE.then_ (GC.seq (GC.region ?_))))))
 refine G.stepD (OD.loadAgg rfl ti44 rfl (i := 8) rfl (us := [.int .i64 (ap), .int .i64 (ar), .int .i64 (ac), vad]) rfl rfl) rfl rfl rfl ?_
 refine G.step (OG.call [.agg #[.int .i64 (ap), .int .i64 (ar), .int .i64 (ac), vad]] ent26 rfl rfl rfl rfl (by exact (toMatrix_s sad (Ent.drop 9 ead) (by omega)))) rfl rfl rfl ?_
 rintro _ _ ⟨v18, rfl, hs19, rfl⟩
 refine G.step (OG.call [.agg #[.int .i64 (ap), .int .i64 (ar), .int .i64 (ac), v18]] ent35 rfl rfl rfl rfl (by exact (expMatrix_w hs19 (Ent.ints (i := 0) rfl)))) rfl rfl rfl ?_
 rintro _ _ ⟨v20, rfl, hs21, rfl⟩
 refine G.stepD (OD.move rfl rfl) rfl rfl rfl ?_
 refine G.stepD (OD.extract rfl rfl rfl) rfl rfl rfl ?_
 refine G.stepD (OD.extract rfl rfl rfl) rfl rfl rfl ?_
 refine G.step (OG.alloc rfl ti35 (zs := [.int .i64 (0), .int .i64 (0), .int .i64 (0), .slice none 0 0]) rfl) rfl rfl rfl ?_
 rintro _ _ ⟨g22, rfl, rfl⟩
 refine G.stepD0 (OD.store rfl ti35 rfl rfl (us := [.int .i64 ((exF ⟨ap, ar, ac, ad⟩).p), .int .i64 ((exF ⟨ap, ar, ac, ad⟩).r), .int .i64 ((exF ⟨ap, ar, ac, ad⟩).c), v20]) rfl rfl (allC rfl (allC rfl (allC rfl (allC (IsS.one hs21) rfl)))) (i := 0) rfl rfl) rfl rfl ?_
 refine G.stepD (OD.assign rfl rfl) rfl rfl rfl ?_
 refine G.nil (GE.then_ (GC.seq (GC.seq (GC.region ?_))))
 refine G.stepD (OD.loadAgg rfl ti35 rfl (i := 0) rfl (us := [.int .i64 ((exF ⟨ap, ar, ac, ad⟩).p), .int .i64 ((exF ⟨ap, ar, ac, ad⟩).r), .int .i64 ((exF ⟨ap, ar, ac, ad⟩).c), v20]) rfl rfl) rfl rfl rfl ?_
 refine G.stepD (OD.loadAgg rfl ti35 rfl (i := 8) rfl (us := [.int .i64 ((exF ⟨ap, ar, ac, ad⟩).p), .int .i64 ((exF ⟨ap, ar, ac, ad⟩).r), .int .i64 ((exF ⟨ap, ar, ac, ad⟩).c), v5]) rfl rfl) rfl rfl rfl ?_
 refine G.step (OG.call [.agg #[.int .i64 ((exF ⟨ap, ar, ac, ad⟩).p), .int .i64 ((exF ⟨ap, ar, ac, ad⟩).r), .int .i64 ((exF ⟨ap, ar, ac, ad⟩).c), v20], .agg #[.int .i64 ((exF ⟨ap, ar, ac, ad⟩).p), .int .i64 ((exF ⟨ap, ar, ac, ad⟩).r), .int .i64 ((exF ⟨ap, ar, ac, ad⟩).c), v5]] ent27 rfl rfl rfl rfl (by exact (eqMatrix_same hs21 (Ent.ints (i := 1) rfl) hs6 (Ent.ints (i := 9) rfl) (by omega)))) rfl rfl rfl ?_
 rintro _ _ ⟨rfl, rfl⟩
 refine G.stepD (OD.not rfl rfl) rfl rfl rfl ?_
 refine G.stepD (OD.move rfl rfl) rfl rfl rfl ?_
 refine G.stepGD (OD.move rfl rfl) rfl rfl rfl rfl rfl ?_
 refine G.stepGD (OD.move rfl rfl) rfl rfl rfl rfl rfl ?_
 refine G.stepGD (OD.eqv (OD.neqB bt4 rfl rfl rfl) (congrArg Value.bool (bneB_same _))) rfl rfl rfl rfl rfl ?_
 refine G.stepD (OD.pickF rfl rfl rfl) rfl rfl rfl ?_
 refine G.nil (GE.then_ (GC.condF rfl (GC.skip (GE.then_ (GC.seq (GC.region ?_))))))
 refine G.stepD (OD.assign rfl rfl) rfl rfl rfl ?_
 refine G.nil (GE.then_ (GC.seq (GC.region ?_)))
 refine G.stepD (OD.loadAgg rfl ti35 rfl (i := 6) rfl (us := [.int .i64 ((exF ⟨ap, ar, ac, ad⟩).p), .int .i64 ((exF ⟨ap, ar, ac, ad⟩).r), .int .i64 ((exF ⟨ap, ar, ac, ad⟩).c), v11]) rfl rfl) rfl rfl rfl ?_
 refine G.stepD (OD.move rfl rfl) rfl rfl rfl ?_
 refine G.step (OG.call [.agg #[.int .i64 ((exF ⟨ap, ar, ac, ad⟩).p), .int .i64 ((exF ⟨ap, ar, ac, ad⟩).r), .int .i64 ((exF ⟨ap, ar, ac, ad⟩).c), v11], .int .i64 (1)] ent29 rfl rfl rfl rfl (by exact (heldMatrix_m hs12 (Ent.ints (i := 3) rfl) (by omega) (by omega)))) rfl rfl rfl ?_
 rintro _ _ ⟨rfl, rfl⟩
 refine G.stepD (OD.assign rfl rfl) rfl rfl rfl ?_
 refine G.nil (GE.then_ (GC.seq (GC.seq (GC.region ?_))))
 refine G.stepD (OD.move rfl rfl) rfl rfl rfl ?_
 refine G.stepD (OD.eqv (OD.lss rfl rfl rfl) (congrArg Value.bool ((decide_eq_false (by omega)) : _ = false))) rfl rfl rfl ?_
 refine G.nil (GE.then_ (GC.condF rfl (GC.skip (GE.then_ (GC.seq (GC.seq (GC.region ?_)))))))
 refine G.stepD (OD.move rfl rfl) rfl rfl rfl ?_
 refine G.stepD (OD.move rfl rfl) rfl rfl rfl ?_
 refine G.stepD (OD.eqv (OD.neq rfl rfl rfl) (congrArg Value.bool ((bne_same _) : _ = false))) rfl rfl rfl ?_
 refine G.nil (GE.then_ (GC.condF rfl (GC.skip (GE.then_ (GC.seq (GC.region ?_))))))
 refine G.stepD (OD.assign rfl rfl) rfl rfl rfl ?_
 refine G.nil (GE.then_ (GC.ret ?_))
 exact GE.body [] 12 (res1 rfl rfl) rfl (⟨rfl, rfl⟩)

end Go.Proofs.Ytiapoopcicjldaa
