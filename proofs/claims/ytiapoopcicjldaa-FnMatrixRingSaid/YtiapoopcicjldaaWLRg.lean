/-
  The law on products of square matrices.
-/
import Derived.Test.YtiapoopcicjldaaWRng
namespace Go.Proofs.Ytiapoopcicjldaa
set_option linter.unusedVariables false
set_option linter.unusedSimpArgs false
open Go.RowKit

theorem ent17 : ∀ us w, (callFunc 17 us).run Try.prog w = .ok (.enter 17 us) w := fun us w => by kernel_rfl
theorem ent18 : ∀ us w, (callFunc 18 us).run Try.prog w = .ok (.enter 18 us) w := fun us w => by kernel_rfl
theorem ent19 : ∀ us w, (callFunc 19 us).run Try.prog w = .ok (.enter 19 us) w := fun us w => by kernel_rfl
theorem ent20 : ∀ us w, (callFunc 20 us).run Try.prog w = .ok (.enter 20 us) w := fun us w => by kernel_rfl
theorem ent21 : ∀ us w, (callFunc 21 us).run Try.prog w = .ok (.enter 21 us) w := fun us w => by kernel_rfl
theorem ent22 : ∀ us w, (callFunc 22 us).run Try.prog w = .ok (.enter 22 us) w := fun us w => by kernel_rfl
theorem ent23 : ∀ us w, (callFunc 23 us).run Try.prog w = .ok (.enter 23 us) w := fun us w => by kernel_rfl

set_option maxHeartbeats 4000000 in
set_option maxRecDepth 100000 in
theorem lawMatrixRing {W : World} {own : List Asn} {vcode : Value} {code : List Int}  (scode : IsS vcode) (ecode : Ent own fun w => Byts w vcode code)  (hl : code.length ≤ 9223372036854775807) : Spec Try.prog 4 [vcode] W own (fun v ow => v = .bool (true) ∧ ow = own) := by
 refine Spec.enter Try.f4 _ Try.func4 rfl (n := 168) rfl rfl ?_
 refine GC.seq (GC.region ?_)
 refine G.stepD (OD.assign rfl rfl) rfl rfl rfl ?_
 refine G.nil (GE.then_ (GC.seq (GC.seq (GC.region ?_))))
 refine G.stepD (OD.move rfl rfl) rfl rfl rfl ?_
 refine G.step (OG.call [vcode] ent17 rfl rfl rfl rfl (by exact (big_w scode ecode (by omega)))) rfl rfl rfl ?_
 rintro _ _ ⟨rfl, hzz⟩; obtain rfl := hzz.symm
 refine G.nil (GE.then_ ?_)
 refine GC.cond rfl (fun hc1 => ?_) (fun hc1 => ?_)
 replace hc1 := of_decide_eq_true hc1
 refine GC.seq (GC.region ?_)
 refine G.stepD (OD.assign rfl rfl) rfl rfl rfl ?_
 refine G.nil (GE.then_ (GC.ret (GE.passR ?_)))
 exact GE.body [] 0 (res1 rfl rfl) rfl (⟨rfl, rfl⟩)
 replace hc1 := of_decide_eq_false hc1
 refine GC.skip (GE.then_ (GC.seq (GC.region ?_)))
 refine G.stepD (OD.move rfl rfl) rfl rfl rfl ?_
 refine G.step (OG.call [vcode] ent18 rfl rfl rfl rfl (by exact (drawThree_w scode ecode (by omega)))) rfl rfl rfl ?_
 rintro _ _ ⟨v2, v3, v4, u5, u6, u7, u8, u9, rfl, hs10, hs11, hs12, hs13, hs14, hs15, hs16, hs17, hs18, hs19, hs20, rfl⟩
 refine G.stepD (OD.move rfl rfl) rfl rfl rfl ?_
 refine G.stepD (OD.extract rfl rfl rfl) rfl rfl rfl ?_
 refine G.stepD (OD.extract rfl rfl rfl) rfl rfl rfl ?_
 refine G.stepD (OD.extract rfl rfl rfl) rfl rfl rfl ?_
 refine G.step (OG.alloc rfl ti35 (zs := [.int .i64 (0), .int .i64 (0), .int .i64 (0), .slice none 0 0]) rfl) rfl rfl rfl ?_
 rintro _ _ ⟨g21, rfl, rfl⟩
 refine G.step (OG.alloc rfl ti35 (zs := [.int .i64 (0), .int .i64 (0), .int .i64 (0), .slice none 0 0]) rfl) rfl rfl rfl ?_
 rintro _ _ ⟨g22, rfl, rfl⟩
 refine G.step (OG.alloc rfl ti35 (zs := [.int .i64 (0), .int .i64 (0), .int .i64 (0), .slice none 0 0]) rfl) rfl rfl rfl ?_
 rintro _ _ ⟨g23, rfl, rfl⟩
 refine G.stepD0 (OD.store rfl ti35 rfl rfl (us := [.int .i64 (u5), .int .i64 (u6), .int .i64 (u6), v2]) rfl rfl (allC rfl (allC rfl (allC rfl (allC (IsS.one hs10) rfl)))) (i := 2) rfl rfl) rfl rfl ?_
 refine G.stepD0 (OD.store rfl ti35 rfl rfl (us := [.int .i64 (u5), .int .i64 (u6), .int .i64 (u6), v3]) rfl rfl (allC rfl (allC rfl (allC rfl (allC (IsS.one hs11) rfl)))) (i := 1) rfl rfl) rfl rfl ?_
 refine G.stepD0 (OD.store rfl ti35 rfl rfl (us := [.int .i64 (u5), .int .i64 (u6), .int .i64 (u6), v4]) rfl rfl (allC rfl (allC rfl (allC rfl (allC (IsS.one hs12) rfl)))) (i := 0) rfl rfl) rfl rfl ?_
 refine G.nil (GE.then_ (GC.seq ?_))
 obtain ⟨hpp, hp2, hp101⟩ := (show primeB u5 = true ∧ 2 ≤ u5 ∧ u5 ≤ 101 from by assumption)
 obtain ⟨m, hmn⟩ : ∃ m : Nat, u6 = (m : Int) := ⟨u6.toNat, by omega⟩
 have hm5 : m < 5 := by omega
 subst hmn
 have hlx : u7.length = m * m := (show u7.length = ((m : Int) * (m : Int)).toNat from by assumption).trans (idxN m m)
 have hgx : Rg u5 u7 := Rg.of (by omega) (show ∀ y ∈ u7, 0 ≤ y ∧ y < u5 from by assumption)
 have hly : u8.length = m * m := (show u8.length = ((m : Int) * (m : Int)).toNat from by assumption).trans (idxN m m)
 have hgy : Rg u5 u8 := Rg.of (by omega) (show ∀ y ∈ u8, 0 ≤ y ∧ y < u5 from by assumption)
 have hlz : u9.length = m * m := (show u9.length = ((m : Int) * (m : Int)).toNat from by assumption).trans (idxN m m)
 have hgz : Rg u5 u9 := Rg.of (by omega) (show ∀ y ∈ u9, 0 ≤ y ∧ y < u5 from by assumption)
 have hL : RgLaw u5 m u7 u8 u9 := rgLaw hpp (by omega) hlx hly hlz hgx hgy hgz
 have hq_assoc := hL.assoc
 have hq_dist := hL.dist
 have hq_tp := hL.tp
 refine GC.region ?_
 refine G.stepD (OD.loadAgg rfl ti35 rfl (i := 2) rfl (us := [.int .i64 (u5), .int .i64 ((m : Int)), .int .i64 ((m : Int)), v2]) rfl rfl) rfl rfl rfl ?_
 refine G.stepD (OD.loadAgg rfl ti35 rfl (i := 1) rfl (us := [.int .i64 (u5), .int .i64 ((m : Int)), .int .i64 ((m : Int)), v3]) rfl rfl) rfl rfl rfl ?_
 refine G.step (OG.call [.agg #[.int .i64 (u5), .int .i64 ((m : Int)), .int .i64 ((m : Int)), v2], .agg #[.int .i64 (u5), .int .i64 ((m : Int)), .int .i64 ((m : Int)), v3]] ent19 rfl rfl rfl rfl (by exact (mulMatrices_ok hs10 (Ent.ints (i := 3) rfl) hs11 (Ent.ints (i := 4) rfl) (hL.oka) (hL.okb) (by omega) (by omega)))) rfl rfl rfl ?_
 rintro _ _ ⟨v24, rfl, hs25, rfl⟩
 refine G.stepD (OD.move rfl rfl) rfl rfl rfl ?_
 refine G.stepD (OD.extract rfl rfl rfl) rfl rfl rfl ?_
 refine G.stepD (OD.extract rfl rfl rfl) rfl rfl rfl ?_
 refine G.step (OG.alloc rfl ti35 (zs := [.int .i64 (0), .int .i64 (0), .int .i64 (0), .slice none 0 0]) rfl) rfl rfl rfl ?_
 rintro _ _ ⟨g26, rfl, rfl⟩
 refine G.stepD0 (OD.store rfl ti35 rfl rfl (us := [.int .i64 (u5), .int .i64 ((m : Int)), .int .i64 ((m : Int)), v24]) rfl rfl (allC rfl (allC rfl (allC rfl (allC (IsS.one hs25) rfl)))) (i := 0) rfl rfl) rfl rfl ?_
 refine G.stepD (OD.assign rfl rfl) rfl rfl rfl ?_
 refine G.nil (GE.then_ (GC.seq (GC.region ?_)))
 refine G.stepD (OD.loadAgg rfl ti35 rfl (i := 3) rfl (us := [.int .i64 (u5), .int .i64 ((m : Int)), .int .i64 ((m : Int)), v3]) rfl rfl) rfl rfl rfl ?_
 refine G.stepD (OD.loadAgg rfl ti35 rfl (i := 2) rfl (us := [.int .i64 (u5), .int .i64 ((m : Int)), .int .i64 ((m : Int)), v4]) rfl rfl) rfl rfl rfl ?_
 refine G.step (OG.call [.agg #[.int .i64 (u5), .int .i64 ((m : Int)), .int .i64 ((m : Int)), v3], .agg #[.int .i64 (u5), .int .i64 ((m : Int)), .int .i64 ((m : Int)), v4]] ent19 rfl rfl rfl rfl (by exact (mulMatrices_ok hs11 (Ent.ints (i := 6) rfl) hs12 (Ent.ints (i := 7) rfl) (hL.okb) (hL.okc) (by omega) (by omega)))) rfl rfl rfl ?_
 rintro _ _ ⟨v27, rfl, hs28, rfl⟩
 refine G.stepD (OD.move rfl rfl) rfl rfl rfl ?_
 refine G.stepD (OD.extract rfl rfl rfl) rfl rfl rfl ?_
 refine G.stepD (OD.extract rfl rfl rfl) rfl rfl rfl ?_
 refine G.step (OG.alloc rfl ti35 (zs := [.int .i64 (0), .int .i64 (0), .int .i64 (0), .slice none 0 0]) rfl) rfl rfl rfl ?_
 rintro _ _ ⟨g29, rfl, rfl⟩
 refine G.stepD0 (OD.store rfl ti35 rfl rfl (us := [.int .i64 (u5), .int .i64 ((m : Int)), .int .i64 ((m : Int)), v27]) rfl rfl (allC rfl (allC rfl (allC rfl (allC (IsS.one hs28) rfl)))) (i := 0) rfl rfl) rfl rfl ?_
 refine G.stepD (OD.assign rfl rfl) rfl rfl rfl ?_
 refine G.nil (GE.then_ (GC.seq (GC.region ?_)))
 refine G.stepD (OD.loadAgg rfl ti35 rfl (i := 2) rfl (us := [.int .i64 (u5), .int .i64 ((m : Int)), .int .i64 ((m : Int)), v24]) rfl rfl) rfl rfl rfl ?_
 refine G.stepD (OD.loadAgg rfl ti35 rfl (i := 4) rfl (us := [.int .i64 (u5), .int .i64 ((m : Int)), .int .i64 ((m : Int)), v4]) rfl rfl) rfl rfl rfl ?_
 refine G.step (OG.call [.agg #[.int .i64 (u5), .int .i64 ((m : Int)), .int .i64 ((m : Int)), v24], .agg #[.int .i64 (u5), .int .i64 ((m : Int)), .int .i64 ((m : Int)), v4]] ent19 rfl rfl rfl rfl (by exact (mulMatrices_ok hs25 (Ent.ints (i := 3) rfl) hs12 (Ent.ints (i := 9) rfl) (hL.okab) (hL.okc) (by omega) (by omega)))) rfl rfl rfl ?_
 rintro _ _ ⟨v30, rfl, hs31, rfl⟩
 refine G.stepD (OD.move rfl rfl) rfl rfl rfl ?_
 refine G.stepD (OD.extract rfl rfl rfl) rfl rfl rfl ?_
 refine G.stepD (OD.extract rfl rfl rfl) rfl rfl rfl ?_
 refine G.step (OG.alloc rfl ti35 (zs := [.int .i64 (0), .int .i64 (0), .int .i64 (0), .slice none 0 0]) rfl) rfl rfl rfl ?_
 rintro _ _ ⟨g32, rfl, rfl⟩
 refine G.stepD0 (OD.store rfl ti35 rfl rfl (us := [.int .i64 (u5), .int .i64 ((m : Int)), .int .i64 ((m : Int)), v30]) rfl rfl (allC rfl (allC rfl (allC rfl (allC (IsS.one hs31) rfl)))) (i := 0) rfl rfl) rfl rfl ?_
 refine G.stepD (OD.assign rfl rfl) rfl rfl rfl ?_
 refine G.nil (GE.then_ (GC.seq (GC.region ?_)))
 refine G.stepD (OD.loadAgg rfl ti35 rfl (i := 8) rfl (us := [.int .i64 (u5), .int .i64 ((m : Int)), .int .i64 ((m : Int)), v2]) rfl rfl) rfl rfl rfl ?_
 refine G.stepD (OD.loadAgg rfl ti35 rfl (i := 2) rfl (us := [.int .i64 (u5), .int .i64 ((m : Int)), .int .i64 ((m : Int)), v27]) rfl rfl) rfl rfl rfl ?_
 refine G.step (OG.call [.agg #[.int .i64 (u5), .int .i64 ((m : Int)), .int .i64 ((m : Int)), v2], .agg #[.int .i64 (u5), .int .i64 ((m : Int)), .int .i64 ((m : Int)), v27]] ent19 rfl rfl rfl rfl (by exact (mulMatrices_ok hs10 (Ent.ints (i := 9) rfl) hs28 (Ent.ints (i := 3) rfl) (hL.oka) (hL.okbc) (by omega) (by omega)))) rfl rfl rfl ?_
 rintro _ _ ⟨v33, rfl, hs34, rfl⟩
 refine G.stepD (OD.move rfl rfl) rfl rfl rfl ?_
 refine G.stepD (OD.extract rfl rfl rfl) rfl rfl rfl ?_
 refine G.stepD (OD.extract rfl rfl rfl) rfl rfl rfl ?_
 refine G.step (OG.alloc rfl ti35 (zs := [.int .i64 (0), .int .i64 (0), .int .i64 (0), .slice none 0 0]) rfl) rfl rfl rfl ?_
 rintro _ _ ⟨g35, rfl, rfl⟩
 refine G.stepD0 (OD.store rfl ti35 rfl rfl (us := [.int .i64 (u5), .int .i64 ((m : Int)), .int .i64 ((m : Int)), v33]) rfl rfl (allC rfl (allC rfl (allC rfl (allC (IsS.one hs34) rfl)))) (i := 0) rfl rfl) rfl rfl ?_
 refine G.stepD (OD.assign rfl rfl) rfl rfl rfl ?_
 refine G.nil (GE.then_ (GC.seq (GC.seq (GC.region ?_))))
 refine G.stepD (OD.move rfl rfl) rfl rfl rfl ?_
 refine G.stepD (OD.not rfl rfl) rfl rfl rfl ?_
 refine G.stepD (OD.move rfl rfl) rfl rfl rfl ?_
 refine G.stepGD (OD.move rfl rfl) rfl rfl rfl rfl rfl ?_
 refine G.stepGD (OD.not rfl rfl) rfl rfl rfl rfl rfl ?_
 refine G.stepD (OD.pickF rfl rfl rfl) rfl rfl rfl ?_
 refine G.stepD (OD.move rfl rfl) rfl rfl rfl ?_
 refine G.stepGD (OD.move rfl rfl) rfl rfl rfl rfl rfl ?_
 refine G.stepGD (OD.not rfl rfl) rfl rfl rfl rfl rfl ?_
 refine G.stepD (OD.pickF rfl rfl rfl) rfl rfl rfl ?_
 refine G.stepD (OD.move rfl rfl) rfl rfl rfl ?_
 refine G.stepGD (OD.move rfl rfl) rfl rfl rfl rfl rfl ?_
 refine G.stepGD (OD.not rfl rfl) rfl rfl rfl rfl rfl ?_
 refine G.stepD (OD.pickF rfl rfl rfl) rfl rfl rfl ?_
 refine G.stepD (OD.move rfl rfl) rfl rfl rfl ?_
 refine G.stepGD (OD.loadAgg rfl ti35 rfl (i := 2) rfl (us := [.int .i64 (u5), .int .i64 ((m : Int)), .int .i64 ((m : Int)), v30]) rfl rfl) rfl rfl rfl rfl rfl ?_
 refine G.stepGD (OD.loadAgg rfl ti35 rfl (i := 0) rfl (us := [.int .i64 (u5), .int .i64 ((m : Int)), .int .i64 ((m : Int)), v33]) rfl rfl) rfl rfl rfl rfl rfl ?_
 refine G.stepG (OG.imp (K' := fun v ow => v = .bool true ∧ ow = box g35 35 [.int .i64 (u5), .int .i64 ((m : Int)), .int .i64 ((m : Int)), v33] :: ints 3 v33 (mulF u5 (m : Int) (m : Int) (m : Int) u7 (mulF u5 (m : Int) (m : Int) (m : Int) u8 u9)) :: box g32 35 [.int .i64 (u5), .int .i64 ((m : Int)), .int .i64 ((m : Int)), v30] :: ints 3 v30 (mulF u5 (m : Int) (m : Int) (m : Int) (mulF u5 (m : Int) (m : Int) (m : Int) u7 u8) u9) :: box g29 35 [.int .i64 (u5), .int .i64 ((m : Int)), .int .i64 ((m : Int)), v27] :: ints 3 v27 (mulF u5 (m : Int) (m : Int) (m : Int) u8 u9) :: box g26 35 [.int .i64 (u5), .int .i64 ((m : Int)), .int .i64 ((m : Int)), v24] :: ints 3 v24 (mulF u5 (m : Int) (m : Int) (m : Int) u7 u8) :: box g23 35 [.int .i64 (u5), .int .i64 ((m : Int)), .int .i64 ((m : Int)), v4] :: box g22 35 [.int .i64 (u5), .int .i64 ((m : Int)), .int .i64 ((m : Int)), v3] :: box g21 35 [.int .i64 (u5), .int .i64 ((m : Int)), .int .i64 ((m : Int)), v2] :: ints 3 v2 u7 :: ints 3 v3 u8 :: ints 3 v4 u9 :: own) (OG.call [.agg #[.int .i64 (u5), .int .i64 ((m : Int)), .int .i64 ((m : Int)), v30], .agg #[.int .i64 (u5), .int .i64 ((m : Int)), .int .i64 ((m : Int)), v33]] ent20 rfl rfl rfl rfl (by exact (lawsEqual_ok hs31 (Ent.ints (i := 3) rfl) hs34 (Ent.ints (i := 1) rfl) (by omega) (by omega) (by omega) (Nat.le_trans (hL.small _ (by simp)) (by decide))))) (by rintro _ _ ⟨rfl, rfl⟩; exact ⟨congrArg Value.bool (hq_assoc), rfl⟩)) rfl rfl rfl rfl rfl ?_
 rintro _ _ ⟨rfl, rfl⟩
 refine G.stepGD (OD.not rfl rfl) rfl rfl rfl rfl rfl ?_
 refine G.stepD (OD.pickF rfl rfl rfl) rfl rfl rfl ?_
 refine G.nil (GE.then_ (GC.condF rfl (GC.skip (GE.then_ (GC.seq (GC.region ?_))))))
 refine G.stepD (OD.loadAgg rfl ti35 rfl (i := 9) rfl (us := [.int .i64 (u5), .int .i64 ((m : Int)), .int .i64 ((m : Int)), v3]) rfl rfl) rfl rfl rfl ?_
 refine G.stepD (OD.loadAgg rfl ti35 rfl (i := 8) rfl (us := [.int .i64 (u5), .int .i64 ((m : Int)), .int .i64 ((m : Int)), v4]) rfl rfl) rfl rfl rfl ?_
 refine G.step (OG.call [.agg #[.int .i64 (u5), .int .i64 ((m : Int)), .int .i64 ((m : Int)), v3], .agg #[.int .i64 (u5), .int .i64 ((m : Int)), .int .i64 ((m : Int)), v4]] ent21 rfl rfl rfl rfl (by exact (addMatrices_ok hs11 (Ent.ints (i := 12) rfl) hs12 (Ent.ints (i := 13) rfl) (hL.okb) (hL.okc) (by omega) (by omega) (by omega)))) rfl rfl rfl ?_
 rintro _ _ ⟨v36, rfl, hs37, rfl⟩
 refine G.stepD (OD.move rfl rfl) rfl rfl rfl ?_
 refine G.stepD (OD.extract rfl rfl rfl) rfl rfl rfl ?_
 refine G.stepD (OD.extract rfl rfl rfl) rfl rfl rfl ?_
 refine G.step (OG.alloc rfl ti35 (zs := [.int .i64 (0), .int .i64 (0), .int .i64 (0), .slice none 0 0]) rfl) rfl rfl rfl ?_
 rintro _ _ ⟨g38, rfl, rfl⟩
 refine G.stepD0 (OD.store rfl ti35 rfl rfl (us := [.int .i64 (u5), .int .i64 ((m : Int)), .int .i64 ((m : Int)), v36]) rfl rfl (allC rfl (allC rfl (allC rfl (allC (IsS.one hs37) rfl)))) (i := 0) rfl rfl) rfl rfl ?_
 refine G.stepD (OD.assign rfl rfl) rfl rfl rfl ?_
 refine G.nil (GE.then_ (GC.seq (GC.region ?_)))
 refine G.stepD (OD.loadAgg rfl ti35 rfl (i := 12) rfl (us := [.int .i64 (u5), .int .i64 ((m : Int)), .int .i64 ((m : Int)), v2]) rfl rfl) rfl rfl rfl ?_
 refine G.stepD (OD.loadAgg rfl ti35 rfl (i := 0) rfl (us := [.int .i64 (u5), .int .i64 ((m : Int)), .int .i64 ((m : Int)), v36]) rfl rfl) rfl rfl rfl ?_
 refine G.step (OG.call [.agg #[.int .i64 (u5), .int .i64 ((m : Int)), .int .i64 ((m : Int)), v2], .agg #[.int .i64 (u5), .int .i64 ((m : Int)), .int .i64 ((m : Int)), v36]] ent19 rfl rfl rfl rfl (by exact (mulMatrices_ok hs10 (Ent.ints (i := 13) rfl) hs37 (Ent.ints (i := 1) rfl) (hL.oka) (hL.oks) (by omega) (by omega)))) rfl rfl rfl ?_
 rintro _ _ ⟨v39, rfl, hs40, rfl⟩
 refine G.stepD (OD.move rfl rfl) rfl rfl rfl ?_
 refine G.stepD (OD.extract rfl rfl rfl) rfl rfl rfl ?_
 refine G.stepD (OD.extract rfl rfl rfl) rfl rfl rfl ?_
 refine G.step (OG.alloc rfl ti35 (zs := [.int .i64 (0), .int .i64 (0), .int .i64 (0), .slice none 0 0]) rfl) rfl rfl rfl ?_
 rintro _ _ ⟨g41, rfl, rfl⟩
 refine G.stepD0 (OD.store rfl ti35 rfl rfl (us := [.int .i64 (u5), .int .i64 ((m : Int)), .int .i64 ((m : Int)), v39]) rfl rfl (allC rfl (allC rfl (allC rfl (allC (IsS.one hs40) rfl)))) (i := 0) rfl rfl) rfl rfl ?_
 refine G.stepD (OD.assign rfl rfl) rfl rfl rfl ?_
 refine G.nil (GE.then_ (GC.seq (GC.region ?_)))
 refine G.stepD (OD.loadAgg rfl ti35 rfl (i := 14) rfl (us := [.int .i64 (u5), .int .i64 ((m : Int)), .int .i64 ((m : Int)), v2]) rfl rfl) rfl rfl rfl ?_
 refine G.stepD (OD.loadAgg rfl ti35 rfl (i := 12) rfl (us := [.int .i64 (u5), .int .i64 ((m : Int)), .int .i64 ((m : Int)), v4]) rfl rfl) rfl rfl rfl ?_
 refine G.step (OG.call [.agg #[.int .i64 (u5), .int .i64 ((m : Int)), .int .i64 ((m : Int)), v2], .agg #[.int .i64 (u5), .int .i64 ((m : Int)), .int .i64 ((m : Int)), v4]] ent19 rfl rfl rfl rfl (by exact (mulMatrices_ok hs10 (Ent.ints (i := 15) rfl) hs12 (Ent.ints (i := 17) rfl) (hL.oka) (hL.okc) (by omega) (by omega)))) rfl rfl rfl ?_
 rintro _ _ ⟨v42, rfl, hs43, rfl⟩
 refine G.stepD (OD.move rfl rfl) rfl rfl rfl ?_
 refine G.stepD (OD.extract rfl rfl rfl) rfl rfl rfl ?_
 refine G.stepD (OD.extract rfl rfl rfl) rfl rfl rfl ?_
 refine G.step (OG.alloc rfl ti35 (zs := [.int .i64 (0), .int .i64 (0), .int .i64 (0), .slice none 0 0]) rfl) rfl rfl rfl ?_
 rintro _ _ ⟨g44, rfl, rfl⟩
 refine G.stepD0 (OD.store rfl ti35 rfl rfl (us := [.int .i64 (u5), .int .i64 ((m : Int)), .int .i64 ((m : Int)), v42]) rfl rfl (allC rfl (allC rfl (allC rfl (allC (IsS.one hs43) rfl)))) (i := 0) rfl rfl) rfl rfl ?_
 refine G.stepD (OD.assign rfl rfl) rfl rfl rfl ?_
 refine G.nil (GE.then_ (GC.seq (GC.region ?_)))
 refine G.stepD (OD.loadAgg rfl ti35 rfl (i := 12) rfl (us := [.int .i64 (u5), .int .i64 ((m : Int)), .int .i64 ((m : Int)), v24]) rfl rfl) rfl rfl rfl ?_
 refine G.stepD (OD.loadAgg rfl ti35 rfl (i := 0) rfl (us := [.int .i64 (u5), .int .i64 ((m : Int)), .int .i64 ((m : Int)), v42]) rfl rfl) rfl rfl rfl ?_
 refine G.step (OG.call [.agg #[.int .i64 (u5), .int .i64 ((m : Int)), .int .i64 ((m : Int)), v24], .agg #[.int .i64 (u5), .int .i64 ((m : Int)), .int .i64 ((m : Int)), v42]] ent21 rfl rfl rfl rfl (by exact (addMatrices_ok hs25 (Ent.ints (i := 13) rfl) hs43 (Ent.ints (i := 1) rfl) (hL.okab) (hL.okac) (by omega) (by omega) (by omega)))) rfl rfl rfl ?_
 rintro _ _ ⟨v45, rfl, hs46, rfl⟩
 refine G.stepD (OD.move rfl rfl) rfl rfl rfl ?_
 refine G.stepD (OD.extract rfl rfl rfl) rfl rfl rfl ?_
 refine G.stepD (OD.extract rfl rfl rfl) rfl rfl rfl ?_
 refine G.step (OG.alloc rfl ti35 (zs := [.int .i64 (0), .int .i64 (0), .int .i64 (0), .slice none 0 0]) rfl) rfl rfl rfl ?_
 rintro _ _ ⟨g47, rfl, rfl⟩
 refine G.stepD0 (OD.store rfl ti35 rfl rfl (us := [.int .i64 (u5), .int .i64 ((m : Int)), .int .i64 ((m : Int)), v45]) rfl rfl (allC rfl (allC rfl (allC rfl (allC (IsS.one hs46) rfl)))) (i := 0) rfl rfl) rfl rfl ?_
 refine G.stepD (OD.assign rfl rfl) rfl rfl rfl ?_
 refine G.nil (GE.then_ (GC.seq (GC.seq (GC.region ?_))))
 refine G.stepD (OD.move rfl rfl) rfl rfl rfl ?_
 refine G.stepD (OD.not rfl rfl) rfl rfl rfl ?_
 refine G.stepD (OD.move rfl rfl) rfl rfl rfl ?_
 refine G.stepGD (OD.move rfl rfl) rfl rfl rfl rfl rfl ?_
 refine G.stepGD (OD.not rfl rfl) rfl rfl rfl rfl rfl ?_
 refine G.stepD (OD.pickF rfl rfl rfl) rfl rfl rfl ?_
 refine G.stepD (OD.move rfl rfl) rfl rfl rfl ?_
 refine G.stepGD (OD.move rfl rfl) rfl rfl rfl rfl rfl ?_
 refine G.stepGD (OD.not rfl rfl) rfl rfl rfl rfl rfl ?_
 refine G.stepD (OD.pickF rfl rfl rfl) rfl rfl rfl ?_
 refine G.stepD (OD.move rfl rfl) rfl rfl rfl ?_
 refine G.stepGD (OD.move rfl rfl) rfl rfl rfl rfl rfl ?_
 refine G.stepGD (OD.not rfl rfl) rfl rfl rfl rfl rfl ?_
 refine G.stepD (OD.pickF rfl rfl rfl) rfl rfl rfl ?_
 refine G.stepD (OD.move rfl rfl) rfl rfl rfl ?_
 refine G.stepGD (OD.loadAgg rfl ti35 rfl (i := 4) rfl (us := [.int .i64 (u5), .int .i64 ((m : Int)), .int .i64 ((m : Int)), v39]) rfl rfl) rfl rfl rfl rfl rfl ?_
 refine G.stepGD (OD.loadAgg rfl ti35 rfl (i := 0) rfl (us := [.int .i64 (u5), .int .i64 ((m : Int)), .int .i64 ((m : Int)), v45]) rfl rfl) rfl rfl rfl rfl rfl ?_
 refine G.stepG (OG.imp (K' := fun v ow => v = .bool true ∧ ow = box g47 35 [.int .i64 (u5), .int .i64 ((m : Int)), .int .i64 ((m : Int)), v45] :: ints 3 v45 (addF 1 u5 (mulF u5 (m : Int) (m : Int) (m : Int) u7 u8) (mulF u5 (m : Int) (m : Int) (m : Int) u7 u9)) :: box g44 35 [.int .i64 (u5), .int .i64 ((m : Int)), .int .i64 ((m : Int)), v42] :: ints 3 v42 (mulF u5 (m : Int) (m : Int) (m : Int) u7 u9) :: box g41 35 [.int .i64 (u5), .int .i64 ((m : Int)), .int .i64 ((m : Int)), v39] :: ints 3 v39 (mulF u5 (m : Int) (m : Int) (m : Int) u7 (addF 1 u5 u8 u9)) :: box g38 35 [.int .i64 (u5), .int .i64 ((m : Int)), .int .i64 ((m : Int)), v36] :: ints 3 v36 (addF 1 u5 u8 u9) :: box g35 35 [.int .i64 (u5), .int .i64 ((m : Int)), .int .i64 ((m : Int)), v33] :: ints 3 v33 (mulF u5 (m : Int) (m : Int) (m : Int) u7 (mulF u5 (m : Int) (m : Int) (m : Int) u8 u9)) :: box g32 35 [.int .i64 (u5), .int .i64 ((m : Int)), .int .i64 ((m : Int)), v30] :: ints 3 v30 (mulF u5 (m : Int) (m : Int) (m : Int) (mulF u5 (m : Int) (m : Int) (m : Int) u7 u8) u9) :: box g29 35 [.int .i64 (u5), .int .i64 ((m : Int)), .int .i64 ((m : Int)), v27] :: ints 3 v27 (mulF u5 (m : Int) (m : Int) (m : Int) u8 u9) :: box g26 35 [.int .i64 (u5), .int .i64 ((m : Int)), .int .i64 ((m : Int)), v24] :: ints 3 v24 (mulF u5 (m : Int) (m : Int) (m : Int) u7 u8) :: box g23 35 [.int .i64 (u5), .int .i64 ((m : Int)), .int .i64 ((m : Int)), v4] :: box g22 35 [.int .i64 (u5), .int .i64 ((m : Int)), .int .i64 ((m : Int)), v3] :: box g21 35 [.int .i64 (u5), .int .i64 ((m : Int)), .int .i64 ((m : Int)), v2] :: ints 3 v2 u7 :: ints 3 v3 u8 :: ints 3 v4 u9 :: own) (OG.call [.agg #[.int .i64 (u5), .int .i64 ((m : Int)), .int .i64 ((m : Int)), v39], .agg #[.int .i64 (u5), .int .i64 ((m : Int)), .int .i64 ((m : Int)), v45]] ent20 rfl rfl rfl rfl (by exact (lawsEqual_ok hs40 (Ent.ints (i := 5) rfl) hs46 (Ent.ints (i := 1) rfl) (by omega) (by omega) (by omega) (Nat.le_trans (hL.small _ (by simp)) (by decide))))) (by rintro _ _ ⟨rfl, rfl⟩; exact ⟨congrArg Value.bool (hq_dist), rfl⟩)) rfl rfl rfl rfl rfl ?_
 rintro _ _ ⟨rfl, rfl⟩
 refine G.stepGD (OD.not rfl rfl) rfl rfl rfl rfl rfl ?_
 refine G.stepD (OD.pickF rfl rfl rfl) rfl rfl rfl ?_
 refine G.nil (GE.then_ (GC.condF rfl (GC.skip (GE.then_ (GC.seq (GC.region ?_))))))
 refine G.stepD (OD.loadAgg rfl ti35 rfl (i := 17) rfl (us := [.int .i64 (u5), .int .i64 ((m : Int)), .int .i64 ((m : Int)), v3]) rfl rfl) rfl rfl rfl ?_
 refine G.stepD (OD.loadAgg rfl ti35 rfl (i := 18) rfl (us := [.int .i64 (u5), .int .i64 ((m : Int)), .int .i64 ((m : Int)), v2]) rfl rfl) rfl rfl rfl ?_
 refine G.step (OG.call [.agg #[.int .i64 (u5), .int .i64 ((m : Int)), .int .i64 ((m : Int)), v3], .agg #[.int .i64 (u5), .int .i64 ((m : Int)), .int .i64 ((m : Int)), v2]] ent19 rfl rfl rfl rfl (by exact (mulMatrices_ok hs11 (Ent.ints (i := 20) rfl) hs10 (Ent.ints (i := 19) rfl) (hL.okb) (hL.oka) (by omega) (by omega)))) rfl rfl rfl ?_
 rintro _ _ ⟨v48, rfl, hs49, rfl⟩
 refine G.stepD (OD.move rfl rfl) rfl rfl rfl ?_
 refine G.stepD (OD.extract rfl rfl rfl) rfl rfl rfl ?_
 refine G.stepD (OD.extract rfl rfl rfl) rfl rfl rfl ?_
 refine G.step (OG.alloc rfl ti35 (zs := [.int .i64 (0), .int .i64 (0), .int .i64 (0), .slice none 0 0]) rfl) rfl rfl rfl ?_
 rintro _ _ ⟨g50, rfl, rfl⟩
 refine G.stepD0 (OD.store rfl ti35 rfl rfl (us := [.int .i64 (u5), .int .i64 ((m : Int)), .int .i64 ((m : Int)), v48]) rfl rfl (allC rfl (allC rfl (allC rfl (allC (IsS.one hs49) rfl)))) (i := 0) rfl rfl) rfl rfl ?_
 refine G.stepD (OD.assign rfl rfl) rfl rfl rfl ?_
 refine G.nil (GE.then_ (GC.seq (GC.region ?_)))
 refine G.stepD (OD.loadAgg rfl ti35 rfl (i := 16) rfl (us := [.int .i64 (u5), .int .i64 ((m : Int)), .int .i64 ((m : Int)), v24]) rfl rfl) rfl rfl rfl ?_
 refine G.step (OG.call [.agg #[.int .i64 (u5), .int .i64 ((m : Int)), .int .i64 ((m : Int)), v24]] ent22 rfl rfl rfl rfl (by exact (traceOf_ok hs25 (Ent.ints (i := 17) rfl) (hL.okab) (by omega)))) rfl rfl rfl ?_
 rintro _ _ ⟨rfl, rfl⟩
 refine G.stepD (OD.move rfl rfl) rfl rfl rfl ?_
 refine G.stepD (OD.extract rfl rfl rfl) rfl rfl rfl ?_
 refine G.stepD (OD.extract rfl rfl rfl) rfl rfl rfl ?_
 refine G.stepD (OD.assign rfl rfl) rfl rfl rfl ?_
 refine G.stepD (OD.assign rfl rfl) rfl rfl rfl ?_
 refine G.nil (GE.then_ (GC.seq (GC.region ?_)))
 refine G.stepD (OD.loadAgg rfl ti35 rfl (i := 0) rfl (us := [.int .i64 (u5), .int .i64 ((m : Int)), .int .i64 ((m : Int)), v48]) rfl rfl) rfl rfl rfl ?_
 refine G.step (OG.call [.agg #[.int .i64 (u5), .int .i64 ((m : Int)), .int .i64 ((m : Int)), v48]] ent22 rfl rfl rfl rfl (by exact (traceOf_ok hs49 (Ent.ints (i := 1) rfl) (hL.okba) (by omega)))) rfl rfl rfl ?_
 rintro _ _ ⟨rfl, rfl⟩
 refine G.stepD (OD.move rfl rfl) rfl rfl rfl ?_
 refine G.stepD (OD.extract rfl rfl rfl) rfl rfl rfl ?_
 refine G.stepD (OD.extract rfl rfl rfl) rfl rfl rfl ?_
 refine G.stepD (OD.assign rfl rfl) rfl rfl rfl ?_
 refine G.stepD (OD.assign rfl rfl) rfl rfl rfl ?_
 refine G.nil (GE.then_ (GC.seq ?_))
 refine GC.at [] 0 (env' := [(3, .pointer (some ⟨g21, 0, none⟩)), (4, .pointer (some ⟨g22, 0, none⟩)), (6, .pointer (some ⟨g26, 0, none⟩)), (24, .int .i64 (trI u5 (m : Int) (mulF u5 (m : Int) (m : Int) (m : Int) u7 u8))), (25, .bool true), (26, .int .i64 (trI u5 (m : Int) (mulF u5 (m : Int) (m : Int) (m : Int) u8 u7))), (27, .bool true)]) ⟨rfl, rfl, rfl, rfl, rfl, rfl, rfl, trivial⟩ rfl ?_
 refine GC.late (σ := [0, 1, 2, 3, 4, 5, 7, 6, 8, 9, 10]) (L := [7]) (its := [⟨143, [], [], [], [], fun _ => .agg #[.int .i64 (u5), .int .i64 ((m : Int)), .int .i64 ((m : Int)), v3], fun _ => True, fun _ => []⟩,
     ⟨144, [(0, 143)], [], [], [1], fun ds => .agg #[.int .i64 (u5), .int .i64 ((m : Int)), .int .i64 ((m : Int)), ((ds.getD 0 []).getD 0 undef)], fun ds => IsS ((ds.getD 0 []).getD 0 undef), fun ds => [ints 3 ((ds.getD 0 []).getD 0 undef) (tpI (m : Int) (m : Int) u8)]⟩,
     ⟨145, [], [], [], [], fun _ => .agg #[.int .i64 (u5), .int .i64 ((m : Int)), .int .i64 ((m : Int)), v2], fun _ => True, fun _ => []⟩,
     ⟨146, [(2, 145)], [], [], [3], fun ds => .agg #[.int .i64 (u5), .int .i64 ((m : Int)), .int .i64 ((m : Int)), ((ds.getD 0 []).getD 0 undef)], fun ds => IsS ((ds.getD 0 []).getD 0 undef), fun ds => [ints 3 ((ds.getD 0 []).getD 0 undef) (tpI (m : Int) (m : Int) u7)]⟩,
     ⟨147, [(1, 144), (3, 146)], [1, 3], [], [1, 3, 4], fun ds => .tuple #[.agg #[.int .i64 (u5), .int .i64 ((m : Int)), .int .i64 ((m : Int)), ((ds.getD 2 []).getD 0 undef)], .bool true], fun ds => IsS ((ds.getD 2 []).getD 0 undef), fun ds => [ints 3 ((ds.getD 2 []).getD 0 undef) (mulF u5 (m : Int) (m : Int) (m : Int) (tpI (m : Int) (m : Int) u8) (tpI (m : Int) (m : Int) u7))]⟩,
     ⟨142, [(4, 147)], [1, 3, 4], [], [1, 3, 4], fun ds => .tuple #[.agg #[.int .i64 (u5), .int .i64 ((m : Int)), .int .i64 ((m : Int)), ((ds.getD 2 []).getD 0 undef)], .bool true], fun _ => True, fun _ => []⟩,
     ⟨149, [(5, 142)], [1, 3, 4], [], [1, 3, 4], fun _ => .bool true, fun _ => True, fun _ => []⟩,
     ⟨148, [(5, 142)], [1, 3, 4], [], [1, 3, 4], fun ds => .agg #[.int .i64 (u5), .int .i64 ((m : Int)), .int .i64 ((m : Int)), ((ds.getD 2 []).getD 0 undef)], fun _ => True, fun _ => []⟩,
     ⟨28, [], [], [], [8], fun ds => .pointer (some ⟨(gOf ((ds.getD 0 []).getD 0 undef)), 0, none⟩), fun _ => True, fun ds => [box (gOf ((ds.getD 0 []).getD 0 undef)) 35 [.int .i64 (0), .int .i64 (0), .int .i64 (0), .slice none 0 0]]⟩]) (by kernel_rfl) (by repeat (first | refine PanQ.then_ ?_ | refine PanQ.block ?_ | exact PanQ.body)) (by kernel_rfl) ⟨⟨_, rfl, .inl rfl⟩, trivial⟩ (by kernel_rfl) (POps.cons ?_ (POps.cons ?_ (POps.cons ?_ (POps.cons ?_ (POps.cons ?_ (POps.cons ?_ (POps.cons ?_ (POps.cons ?_ (POps.cons ?_ POps.nil))))))))) ?_
 intro θ R hd
 exact Opp.plain (OG.imp (OD.loadAgg rfl ti35 rfl (i := 19) rfl (us := [.int .i64 (u5), .int .i64 ((m : Int)), .int .i64 ((m : Int)), v3]) rfl rfl) (by rintro _ _ ⟨rfl, rfl⟩; exact ⟨[], rfl, trivial, rfl⟩)) rfl
 intro θ R hd
 obtain ⟨h0d, _⟩ := hd
 exact Opp.plain (OG.imp (OG.call [.agg #[.int .i64 (u5), .int .i64 ((m : Int)), .int .i64 ((m : Int)), v3]] ent23 rfl rfl rfl rfl (by exact (transpose_ok hs11 (Ent.ints (i := 22) rfl) (hL.okb)))) (by rintro _ _ ⟨v51, rfl, hs52, rfl⟩; exact ⟨[v51], rfl, hs52, rfl⟩)) rfl
 intro θ R hd
 exact Opp.plain (OG.imp (OD.loadAgg rfl ti35 rfl (i := 20) rfl (us := [.int .i64 (u5), .int .i64 ((m : Int)), .int .i64 ((m : Int)), v2]) rfl rfl) (by rintro _ _ ⟨rfl, rfl⟩; exact ⟨[], rfl, trivial, rfl⟩)) rfl
 intro θ R hd
 obtain ⟨h2d, _⟩ := hd
 exact Opp.plain (OG.imp (OG.call [.agg #[.int .i64 (u5), .int .i64 ((m : Int)), .int .i64 ((m : Int)), v2]] ent23 rfl rfl rfl rfl (by exact (transpose_ok hs10 (Ent.ints (i := 21) rfl) (hL.oka)))) (by rintro _ _ ⟨v53, rfl, hs54, rfl⟩; exact ⟨[v53], rfl, hs54, rfl⟩)) rfl
 intro θ R hd
 obtain ⟨h1d, h3d, _⟩ := hd
 exact Opp.plain (OG.imp (OG.call [.agg #[.int .i64 (u5), .int .i64 ((m : Int)), .int .i64 ((m : Int)), ((θ 1).getD 0 undef)], .agg #[.int .i64 (u5), .int .i64 ((m : Int)), .int .i64 ((m : Int)), ((θ 3).getD 0 undef)]] ent19 rfl rfl rfl rfl (by exact (mulMatrices_ok h1d (Ent.ints (i := 0) rfl) h3d (Ent.ints (i := 1) rfl) (hL.oktb) (hL.okta) (by omega) (by omega)))) (by rintro _ _ ⟨v55, rfl, hs56, rfl⟩; exact ⟨[v55], rfl, hs56, rfl⟩)) rfl
 intro θ R hd
 obtain ⟨h4d, _⟩ := hd
 exact Opp.plain (OG.imp (OD.move rfl rfl) (by rintro _ _ ⟨rfl, rfl⟩; exact ⟨[], rfl, trivial, rfl⟩)) rfl
 intro θ R hd
 obtain ⟨h5d, _⟩ := hd
 exact Opp.plain (OG.imp (OD.extract rfl rfl rfl) (by rintro _ _ ⟨rfl, rfl⟩; exact ⟨[], rfl, trivial, rfl⟩)) rfl
 intro θ R hd
 obtain ⟨h5d, _⟩ := hd
 exact Opp.plain (OG.imp (OD.extract rfl rfl rfl) (by rintro _ _ ⟨rfl, rfl⟩; exact ⟨[], rfl, trivial, rfl⟩)) rfl
 intro θ R hd
 exact Opp.plain (OG.imp (OG.alloc rfl ti35 (zs := [.int .i64 (0), .int .i64 (0), .int .i64 (0), .slice none 0 0]) rfl) (by rintro _ _ ⟨g57, rfl, rfl⟩; exact ⟨[.pointer (some ⟨g57, 0, none⟩)], rfl, trivial, rfl⟩)) rfl
 intro θ hall
 obtain ⟨_, h1a, _, h3a, h4a, _, _, _, h8a, _⟩ := hall
 refine G.at [] 0 (env' := [(6, .pointer (some ⟨g26, 0, none⟩)), (24, .int .i64 (trI u5 (m : Int) (mulF u5 (m : Int) (m : Int) (m : Int) u7 u8))), (25, .bool true), (26, .int .i64 (trI u5 (m : Int) (mulF u5 (m : Int) (m : Int) (m : Int) u8 u7))), (27, .bool true), (149, .bool true), (148, .agg #[.int .i64 (u5), .int .i64 ((m : Int)), .int .i64 ((m : Int)), ((θ 4).getD 0 undef)]), (28, .pointer (some ⟨(gOf ((θ 8).getD 0 undef)), 0, none⟩))]) ⟨rfl, rfl, rfl, rfl, rfl, rfl, rfl, rfl, trivial⟩ (own' := ints 3 ((θ 1).getD 0 undef) (tpI (m : Int) (m : Int) u8) :: ints 3 ((θ 3).getD 0 undef) (tpI (m : Int) (m : Int) u7) :: ints 3 ((θ 4).getD 0 undef) (mulF u5 (m : Int) (m : Int) (m : Int) (tpI (m : Int) (m : Int) u8) (tpI (m : Int) (m : Int) u7)) :: box (gOf ((θ 8).getD 0 undef)) 35 [.int .i64 (0), .int .i64 (0), .int .i64 (0), .slice none 0 0] :: box g50 35 [.int .i64 (u5), .int .i64 ((m : Int)), .int .i64 ((m : Int)), v48] :: ints 3 v48 (mulF u5 (m : Int) (m : Int) (m : Int) u8 u7) :: box g47 35 [.int .i64 (u5), .int .i64 ((m : Int)), .int .i64 ((m : Int)), v45] :: ints 3 v45 (addF 1 u5 (mulF u5 (m : Int) (m : Int) (m : Int) u7 u8) (mulF u5 (m : Int) (m : Int) (m : Int) u7 u9)) :: box g44 35 [.int .i64 (u5), .int .i64 ((m : Int)), .int .i64 ((m : Int)), v42] :: ints 3 v42 (mulF u5 (m : Int) (m : Int) (m : Int) u7 u9) :: box g41 35 [.int .i64 (u5), .int .i64 ((m : Int)), .int .i64 ((m : Int)), v39] :: ints 3 v39 (mulF u5 (m : Int) (m : Int) (m : Int) u7 (addF 1 u5 u8 u9)) :: box g38 35 [.int .i64 (u5), .int .i64 ((m : Int)), .int .i64 ((m : Int)), v36] :: ints 3 v36 (addF 1 u5 u8 u9) :: box g35 35 [.int .i64 (u5), .int .i64 ((m : Int)), .int .i64 ((m : Int)), v33] :: ints 3 v33 (mulF u5 (m : Int) (m : Int) (m : Int) u7 (mulF u5 (m : Int) (m : Int) (m : Int) u8 u9)) :: box g32 35 [.int .i64 (u5), .int .i64 ((m : Int)), .int .i64 ((m : Int)), v30] :: ints 3 v30 (mulF u5 (m : Int) (m : Int) (m : Int) (mulF u5 (m : Int) (m : Int) (m : Int) u7 u8) u9) :: box g29 35 [.int .i64 (u5), .int .i64 ((m : Int)), .int .i64 ((m : Int)), v27] :: ints 3 v27 (mulF u5 (m : Int) (m : Int) (m : Int) u8 u9) :: box g26 35 [.int .i64 (u5), .int .i64 ((m : Int)), .int .i64 ((m : Int)), v24] :: ints 3 v24 (mulF u5 (m : Int) (m : Int) (m : Int) u7 u8) :: box g23 35 [.int .i64 (u5), .int .i64 ((m : Int)), .int .i64 ((m : Int)), v4] :: box g22 35 [.int .i64 (u5), .int .i64 ((m : Int)), .int .i64 ((m : Int)), v3] :: box g21 35 [.int .i64 (u5), .int .i64 ((m : Int)), .int .i64 ((m : Int)), v2] :: ints 3 v2 u7 :: ints 3 v3 u8 :: ints 3 v4 u9 :: own) rfl ?_
 have hs58 : IsS ((θ 1).getD 0 undef) := h1a
 clear h1a
 generalize ((θ 1).getD 0 undef) = v59 at *
 have hs60 : IsS ((θ 3).getD 0 undef) := h3a
 clear h3a
 generalize ((θ 3).getD 0 undef) = v61 at *
 have hs62 : IsS ((θ 4).getD 0 undef) := h4a
 clear h4a
 generalize ((θ 4).getD 0 undef) = v63 at *
 clear h8a
 generalize (gOf ((θ 8).getD 0 undef)) = b64 at *
 show G _ _ _ [_, _] _ _ _ _
 refine G.stepD0 (OD.store rfl ti35 rfl rfl (us := [.int .i64 (u5), .int .i64 ((m : Int)), .int .i64 ((m : Int)), v63]) rfl rfl (allC rfl (allC rfl (allC rfl (allC (IsS.one hs62) rfl)))) (i := 3) rfl rfl) rfl rfl ?_
 refine G.stepD (OD.assign rfl rfl) rfl rfl rfl ?_
 refine G.nil (GE.then_ (GC.seq ?_))
 refine GC.at [] 0 (env' := [(6, .pointer (some ⟨g26, 0, none⟩)), (24, .int .i64 (trI u5 (m : Int) (mulF u5 (m : Int) (m : Int) (m : Int) u7 u8))), (25, .bool true), (26, .int .i64 (trI u5 (m : Int) (mulF u5 (m : Int) (m : Int) (m : Int) u8 u7))), (27, .bool true), (28, .pointer (some ⟨b64, 0, none⟩)), (29, .bool true)]) ⟨rfl, rfl, rfl, rfl, rfl, rfl, rfl, trivial⟩ rfl ?_
 refine GC.par (its := [⟨150, [], [], [], [], fun _ => .bool true, fun _ => True, fun _ => []⟩,
     ⟨151, [(0, 150)], [], [], [], fun _ => .bool true, fun _ => True, fun _ => []⟩,
     ⟨152, [(1, 151)], [], [], [], fun _ => .bool true, fun _ => True, fun _ => []⟩,
     ⟨153, [(1, 151), (2, 152)], [], [], [], fun _ => .bool true, fun _ => True, fun _ => []⟩,
     ⟨154, [(3, 153)], [], [], [], fun _ => .bool true, fun _ => True, fun _ => []⟩,
     ⟨155, [(4, 154)], [], [], [], fun _ => .int .i64 (trI u5 (m : Int) (mulF u5 (m : Int) (m : Int) (m : Int) u7 u8)), fun _ => True, fun _ => []⟩,
     ⟨156, [(4, 154)], [], [], [], fun _ => .int .i64 (trI u5 (m : Int) (mulF u5 (m : Int) (m : Int) (m : Int) u8 u7)), fun _ => True, fun _ => []⟩,
     ⟨157, [(4, 154), (5, 155), (6, 156)], [], [], [], fun _ => .bool true, fun _ => True, fun _ => []⟩,
     ⟨158, [(4, 154), (7, 157)], [], [], [], fun _ => .bool true, fun _ => True, fun _ => []⟩,
     ⟨159, [(8, 158)], [], [], [], fun _ => .bool true, fun _ => True, fun _ => []⟩,
     ⟨160, [(9, 159)], [], [], [], fun _ => .bool true, fun _ => True, fun _ => []⟩,
     ⟨161, [(9, 159), (10, 160)], [], [], [], fun _ => .bool true, fun _ => True, fun _ => []⟩,
     ⟨162, [(11, 161)], [], [], [], fun _ => .bool true, fun _ => True, fun _ => []⟩,
     ⟨163, [(12, 162)], [], [], [], fun _ => .agg #[.int .i64 (u5), .int .i64 ((m : Int)), .int .i64 ((m : Int)), v24], fun _ => True, fun _ => []⟩,
     ⟨164, [(12, 162), (13, 163)], [], [], [14], fun ds => .agg #[.int .i64 (u5), .int .i64 ((m : Int)), .int .i64 ((m : Int)), ((ds.getD 0 []).getD 0 undef)], fun ds => IsS ((ds.getD 0 []).getD 0 undef), fun ds => [ints 3 ((ds.getD 0 []).getD 0 undef) (tpI (m : Int) (m : Int) (mulF u5 (m : Int) (m : Int) (m : Int) u7 u8))]⟩,
     ⟨165, [(12, 162)], [], [], [], fun _ => .agg #[.int .i64 (u5), .int .i64 ((m : Int)), .int .i64 ((m : Int)), v63], fun _ => True, fun _ => []⟩,
     ⟨166, [(12, 162), (14, 164), (15, 165)], [14], [], [14], fun _ => .bool true, fun _ => True, fun _ => []⟩,
     ⟨167, [(12, 162), (16, 166)], [14], [], [14], fun _ => .bool true, fun _ => True, fun _ => []⟩]) (by kernel_rfl) (by kernel_rfl) (POps.cons ?_ (POps.cons ?_ (POps.cons ?_ (POps.cons ?_ (POps.cons ?_ (POps.cons ?_ (POps.cons ?_ (POps.cons ?_ (POps.cons ?_ (POps.cons ?_ (POps.cons ?_ (POps.cons ?_ (POps.cons ?_ (POps.cons ?_ (POps.cons ?_ (POps.cons ?_ (POps.cons ?_ (POps.cons ?_ POps.nil)))))))))))))))))) ?_
 intro θ R hd
 exact Opp.plain (OG.imp (OD.move rfl rfl) (by rintro _ _ ⟨rfl, rfl⟩; exact ⟨[], rfl, trivial, rfl⟩)) rfl
 intro θ R hd
 obtain ⟨h0d, _⟩ := hd
 exact Opp.plain (OG.imp (OD.move rfl rfl) (by rintro _ _ ⟨rfl, rfl⟩; exact ⟨[], rfl, trivial, rfl⟩)) rfl
 intro θ R hd
 obtain ⟨h1d, _⟩ := hd
 exact Opp.on (OG.imp (OD.move rfl rfl) (by rintro _ _ ⟨rfl, rfl⟩; exact ⟨[], rfl, trivial, rfl⟩)) rfl rfl rfl
 intro θ R hd
 obtain ⟨h1d, h2d, _⟩ := hd
 exact Opp.plain (OG.imp (OD.pickT rfl rfl rfl) (by rintro _ _ ⟨rfl, rfl⟩; exact ⟨[], rfl, trivial, rfl⟩)) rfl
 intro θ R hd
 obtain ⟨h3d, _⟩ := hd
 exact Opp.plain (OG.imp (OD.move rfl rfl) (by rintro _ _ ⟨rfl, rfl⟩; exact ⟨[], rfl, trivial, rfl⟩)) rfl
 intro θ R hd
 obtain ⟨h4d, _⟩ := hd
 exact Opp.on (OG.imp (OD.move rfl rfl) (by rintro _ _ ⟨rfl, rfl⟩; exact ⟨[], rfl, trivial, rfl⟩)) rfl rfl rfl
 intro θ R hd
 obtain ⟨h4d, _⟩ := hd
 exact Opp.on (OG.imp (OD.move rfl rfl) (by rintro _ _ ⟨rfl, rfl⟩; exact ⟨[], rfl, trivial, rfl⟩)) rfl rfl rfl
 intro θ R hd
 obtain ⟨h4d, h5d, h6d, _⟩ := hd
 exact Opp.on (OG.imp (OD.eqv (OD.eql rfl rfl rfl) (congrArg Value.bool ((beq_iff_eq.2 hL.tr) : _ = true))) (by rintro _ _ ⟨rfl, rfl⟩; exact ⟨[], rfl, trivial, rfl⟩)) rfl rfl rfl
 intro θ R hd
 obtain ⟨h4d, h7d, _⟩ := hd
 exact Opp.plain (OG.imp (OD.pickT rfl rfl rfl) (by rintro _ _ ⟨rfl, rfl⟩; exact ⟨[], rfl, trivial, rfl⟩)) rfl
 intro θ R hd
 obtain ⟨h8d, _⟩ := hd
 exact Opp.plain (OG.imp (OD.move rfl rfl) (by rintro _ _ ⟨rfl, rfl⟩; exact ⟨[], rfl, trivial, rfl⟩)) rfl
 intro θ R hd
 obtain ⟨h9d, _⟩ := hd
 exact Opp.on (OG.imp (OD.move rfl rfl) (by rintro _ _ ⟨rfl, rfl⟩; exact ⟨[], rfl, trivial, rfl⟩)) rfl rfl rfl
 intro θ R hd
 obtain ⟨h9d, h10d, _⟩ := hd
 exact Opp.plain (OG.imp (OD.pickT rfl rfl rfl) (by rintro _ _ ⟨rfl, rfl⟩; exact ⟨[], rfl, trivial, rfl⟩)) rfl
 intro θ R hd
 obtain ⟨h11d, _⟩ := hd
 exact Opp.plain (OG.imp (OD.move rfl rfl) (by rintro _ _ ⟨rfl, rfl⟩; exact ⟨[], rfl, trivial, rfl⟩)) rfl
 intro θ R hd
 obtain ⟨h12d, _⟩ := hd
 exact Opp.on (OG.imp (OD.loadAgg rfl ti35 rfl (i := 20) rfl (us := [.int .i64 (u5), .int .i64 ((m : Int)), .int .i64 ((m : Int)), v24]) rfl rfl) (by rintro _ _ ⟨rfl, rfl⟩; exact ⟨[], rfl, trivial, rfl⟩)) rfl rfl rfl
 intro θ R hd
 obtain ⟨h12d, h13d, _⟩ := hd
 exact Opp.on (OG.imp (OG.call [.agg #[.int .i64 (u5), .int .i64 ((m : Int)), .int .i64 ((m : Int)), v24]] ent23 rfl rfl rfl rfl (by exact (transpose_ok hs25 (Ent.ints (i := 21) rfl) (hL.okab)))) (by rintro _ _ ⟨v65, rfl, hs66, rfl⟩; exact ⟨[v65], rfl, hs66, rfl⟩)) rfl rfl rfl
 intro θ R hd
 obtain ⟨h12d, _⟩ := hd
 exact Opp.on (OG.imp (OD.loadAgg rfl ti35 rfl (i := 3) rfl (us := [.int .i64 (u5), .int .i64 ((m : Int)), .int .i64 ((m : Int)), v63]) rfl rfl) (by rintro _ _ ⟨rfl, rfl⟩; exact ⟨[], rfl, trivial, rfl⟩)) rfl rfl rfl
 intro θ R hd
 obtain ⟨h12d, h14d, h15d, _⟩ := hd
 exact Opp.on (OG.imp (OG.imp (K' := fun v ow => v = .bool true ∧ ow = ints 3 ((θ 14).getD 0 undef) (tpI (m : Int) (m : Int) (mulF u5 (m : Int) (m : Int) (m : Int) u7 u8)) :: ints 3 v59 (tpI (m : Int) (m : Int) u8) :: ints 3 v61 (tpI (m : Int) (m : Int) u7) :: ints 3 v63 (mulF u5 (m : Int) (m : Int) (m : Int) (tpI (m : Int) (m : Int) u8) (tpI (m : Int) (m : Int) u7)) :: box b64 35 [.int .i64 (u5), .int .i64 ((m : Int)), .int .i64 ((m : Int)), v63] :: box g50 35 [.int .i64 (u5), .int .i64 ((m : Int)), .int .i64 ((m : Int)), v48] :: ints 3 v48 (mulF u5 (m : Int) (m : Int) (m : Int) u8 u7) :: box g47 35 [.int .i64 (u5), .int .i64 ((m : Int)), .int .i64 ((m : Int)), v45] :: ints 3 v45 (addF 1 u5 (mulF u5 (m : Int) (m : Int) (m : Int) u7 u8) (mulF u5 (m : Int) (m : Int) (m : Int) u7 u9)) :: box g44 35 [.int .i64 (u5), .int .i64 ((m : Int)), .int .i64 ((m : Int)), v42] :: ints 3 v42 (mulF u5 (m : Int) (m : Int) (m : Int) u7 u9) :: box g41 35 [.int .i64 (u5), .int .i64 ((m : Int)), .int .i64 ((m : Int)), v39] :: ints 3 v39 (mulF u5 (m : Int) (m : Int) (m : Int) u7 (addF 1 u5 u8 u9)) :: box g38 35 [.int .i64 (u5), .int .i64 ((m : Int)), .int .i64 ((m : Int)), v36] :: ints 3 v36 (addF 1 u5 u8 u9) :: box g35 35 [.int .i64 (u5), .int .i64 ((m : Int)), .int .i64 ((m : Int)), v33] :: ints 3 v33 (mulF u5 (m : Int) (m : Int) (m : Int) u7 (mulF u5 (m : Int) (m : Int) (m : Int) u8 u9)) :: box g32 35 [.int .i64 (u5), .int .i64 ((m : Int)), .int .i64 ((m : Int)), v30] :: ints 3 v30 (mulF u5 (m : Int) (m : Int) (m : Int) (mulF u5 (m : Int) (m : Int) (m : Int) u7 u8) u9) :: box g29 35 [.int .i64 (u5), .int .i64 ((m : Int)), .int .i64 ((m : Int)), v27] :: ints 3 v27 (mulF u5 (m : Int) (m : Int) (m : Int) u8 u9) :: box g26 35 [.int .i64 (u5), .int .i64 ((m : Int)), .int .i64 ((m : Int)), v24] :: ints 3 v24 (mulF u5 (m : Int) (m : Int) (m : Int) u7 u8) :: box g23 35 [.int .i64 (u5), .int .i64 ((m : Int)), .int .i64 ((m : Int)), v4] :: box g22 35 [.int .i64 (u5), .int .i64 ((m : Int)), .int .i64 ((m : Int)), v3] :: box g21 35 [.int .i64 (u5), .int .i64 ((m : Int)), .int .i64 ((m : Int)), v2] :: ints 3 v2 u7 :: ints 3 v3 u8 :: ints 3 v4 u9 :: own ++ R) (OG.call [.agg #[.int .i64 (u5), .int .i64 ((m : Int)), .int .i64 ((m : Int)), ((θ 14).getD 0 undef)], .agg #[.int .i64 (u5), .int .i64 ((m : Int)), .int .i64 ((m : Int)), v63]] ent20 rfl rfl rfl rfl (by exact (lawsEqual_ok h14d (Ent.ints (i := 0) rfl) hs62 (Ent.ints (i := 3) rfl) (by omega) (by omega) (by omega) (Nat.le_trans (hL.small _ (by simp)) (by decide))))) (by rintro _ _ ⟨rfl, rfl⟩; exact ⟨congrArg Value.bool (hq_tp), rfl⟩)) (by rintro _ _ ⟨rfl, rfl⟩; exact ⟨[], rfl, trivial, rfl⟩)) rfl rfl rfl
 intro θ R hd
 obtain ⟨h12d, h16d, _⟩ := hd
 exact Opp.plain (OG.imp (OD.pickT rfl rfl rfl) (by rintro _ _ ⟨rfl, rfl⟩; exact ⟨[], rfl, trivial, rfl⟩)) rfl
 intro θ hall
 obtain ⟨_, _, _, _, _, _, _, _, _, _, _, _, _, _, h14a, _, _, _, _⟩ := hall
 refine G.at [] 0 (env' := [(167, .bool true)]) ⟨rfl, trivial⟩ (own' := ints 3 ((θ 14).getD 0 undef) (tpI (m : Int) (m : Int) (mulF u5 (m : Int) (m : Int) (m : Int) u7 u8)) :: ints 3 v59 (tpI (m : Int) (m : Int) u8) :: ints 3 v61 (tpI (m : Int) (m : Int) u7) :: ints 3 v63 (mulF u5 (m : Int) (m : Int) (m : Int) (tpI (m : Int) (m : Int) u8) (tpI (m : Int) (m : Int) u7)) :: box b64 35 [.int .i64 (u5), .int .i64 ((m : Int)), .int .i64 ((m : Int)), v63] :: box g50 35 [.int .i64 (u5), .int .i64 ((m : Int)), .int .i64 ((m : Int)), v48] :: ints 3 v48 (mulF u5 (m : Int) (m : Int) (m : Int) u8 u7) :: box g47 35 [.int .i64 (u5), .int .i64 ((m : Int)), .int .i64 ((m : Int)), v45] :: ints 3 v45 (addF 1 u5 (mulF u5 (m : Int) (m : Int) (m : Int) u7 u8) (mulF u5 (m : Int) (m : Int) (m : Int) u7 u9)) :: box g44 35 [.int .i64 (u5), .int .i64 ((m : Int)), .int .i64 ((m : Int)), v42] :: ints 3 v42 (mulF u5 (m : Int) (m : Int) (m : Int) u7 u9) :: box g41 35 [.int .i64 (u5), .int .i64 ((m : Int)), .int .i64 ((m : Int)), v39] :: ints 3 v39 (mulF u5 (m : Int) (m : Int) (m : Int) u7 (addF 1 u5 u8 u9)) :: box g38 35 [.int .i64 (u5), .int .i64 ((m : Int)), .int .i64 ((m : Int)), v36] :: ints 3 v36 (addF 1 u5 u8 u9) :: box g35 35 [.int .i64 (u5), .int .i64 ((m : Int)), .int .i64 ((m : Int)), v33] :: ints 3 v33 (mulF u5 (m : Int) (m : Int) (m : Int) u7 (mulF u5 (m : Int) (m : Int) (m : Int) u8 u9)) :: box g32 35 [.int .i64 (u5), .int .i64 ((m : Int)), .int .i64 ((m : Int)), v30] :: ints 3 v30 (mulF u5 (m : Int) (m : Int) (m : Int) (mulF u5 (m : Int) (m : Int) (m : Int) u7 u8) u9) :: box g29 35 [.int .i64 (u5), .int .i64 ((m : Int)), .int .i64 ((m : Int)), v27] :: ints 3 v27 (mulF u5 (m : Int) (m : Int) (m : Int) u8 u9) :: box g26 35 [.int .i64 (u5), .int .i64 ((m : Int)), .int .i64 ((m : Int)), v24] :: ints 3 v24 (mulF u5 (m : Int) (m : Int) (m : Int) u7 u8) :: box g23 35 [.int .i64 (u5), .int .i64 ((m : Int)), .int .i64 ((m : Int)), v4] :: box g22 35 [.int .i64 (u5), .int .i64 ((m : Int)), .int .i64 ((m : Int)), v3] :: box g21 35 [.int .i64 (u5), .int .i64 ((m : Int)), .int .i64 ((m : Int)), v2] :: ints 3 v2 u7 :: ints 3 v3 u8 :: ints 3 v4 u9 :: own) rfl ?_
 have hs67 : IsS ((θ 14).getD 0 undef) := h14a
 clear h14a
 generalize ((θ 14).getD 0 undef) = v68 at *
 show G _ _ _ [_] _ _ _ _
 refine G.stepD (OD.assign rfl rfl) rfl rfl rfl ?_
 refine G.nil (GE.then_ (GC.ret ?_))
 exact GE.body [] 29 (res1 rfl rfl) rfl (⟨rfl, rfl⟩)

end Go.Proofs.Ytiapoopcicjldaa
