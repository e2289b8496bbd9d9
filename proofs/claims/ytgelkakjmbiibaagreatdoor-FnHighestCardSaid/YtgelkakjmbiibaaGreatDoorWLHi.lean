/-
  The law on the highest root.
-/
import Derived.Test.YtgelkakjmbiibaaGreatDoorFct
import Derived.Test.YtgelkakjmbiibaaGreatDoorWTyp
import Derived.Test.YtgelkakjmbiibaaGreatDoorWHi
import Derived.Test.YtgelkakjmbiibaaGreatDoorWPos
import Derived.Test.YtgelkakjmbiibaaGreatDoorWNewA
import Derived.Test.YtgelkakjmbiibaaGreatDoorWWof
import Derived.Test.YtgelkakjmbiibaaGreatDoorHiA
namespace Go.Proofs.YtgelkakjmbiibaaGreatDoor
set_option linter.unusedVariables false
set_option linter.unusedSimpArgs false
open Go.RowKit
theorem ent19 : ∀ us w, (callFunc 19 us).run Tryz.prog w = .ok (.enter 19 us) w := fun us w => by kernel_rfl
theorem ent28 : ∀ us w, (callFunc 28 us).run Tryz.prog w = .ok (.enter 28 us) w := fun us w => by kernel_rfl
theorem ent35 : ∀ us w, (callFunc 35 us).run Tryz.prog w = .ok (.enter 35 us) w := fun us w => by kernel_rfl
theorem ent38 : ∀ us w, (callFunc 38 us).run Tryz.prog w = .ok (.enter 38 us) w := fun us w => by kernel_rfl
theorem ent39 : ∀ us w, (callFunc 39 us).run Tryz.prog w = .ok (.enter 39 us) w := fun us w => by kernel_rfl
theorem ent40 : ∀ us w, (callFunc 40 us).run Tryz.prog w = .ok (.enter 40 us) w := fun us w => by kernel_rfl
theorem ent41 : ∀ us w, (callFunc 41 us).run Tryz.prog w = .ok (.enter 41 us) w := fun us w => by kernel_rfl
set_option maxHeartbeats 4000000 in
set_option maxRecDepth 100000 in
theorem lawHighest {W : World} {own : List Asn} {vcode : Value} {code : List Int}  (scode : IsS vcode) (ecode : Ent own fun w => Byts w vcode code)  (hl : code.length ≤ 9223372036854775807) (hg : Ent own fun w => ∃ m, w.cell? ⟨Tryz.l146_ren.g 1, 0, none⟩ = some (.int .i64 m)) (htab : Ent own Pow10) : Spec Tryz.prog 8 [vcode] W own (fun v ow => v = .bool (true) ∧ ow = own) := by
 refine Spec.enter Tryz.f8 _ Tryz.func8 rfl (n := 97) rfl rfl ?_
 refine GC.seq (GC.region ?_)
 refine G.stepD (OD.assign rfl rfl) rfl rfl rfl ?_
 refine G.nil (GE.then_ (GC.seq (GC.seq (GC.region ?_))))
 refine G.stepD (OD.move rfl rfl) rfl rfl rfl ?_
 refine G.step (OG.call [vcode] ent19 rfl rfl rfl rfl (by exact (big_w scode ecode (by omega)))) rfl rfl rfl ?_
 rintro _ _ ⟨rfl, hzz⟩; obtain rfl := hzz.symm
 refine G.nil (GE.then_ ?_)
 refine GC.cond rfl (fun hc1 => ?_) (fun hc1 => ?_)
 replace hc1 := of_decide_eq_true hc1
 refine GC.seq (GC.region ?_)
 refine G.stepD (OD.assign rfl rfl) rfl rfl rfl ?_
 refine G.nil (GE.then_ (GC.ret (GE.passR ?_)))
 exact GE.body [] 0 (res1 rfl rfl) rfl (⟨rfl, rfl⟩)
 replace hc1 := of_decide_eq_false hc1
 refine GC.skip (GE.then_ (GC.seq (GC.region ?_)))
 refine G.stepD (OD.move rfl rfl) rfl rfl rfl ?_
 refine G.step (OG.call [vcode] ent38 rfl rfl rfl rfl (by exact (drawType_w scode ecode (by omega)))) rfl rfl rfl ?_
 rintro _ _ ⟨v2, g3, u4, rfl, hs5, hs6, hs7, rfl⟩
 refine G.stepD (OD.move rfl rfl) rfl rfl rfl ?_
 refine G.stepD (OD.extract rfl rfl rfl) rfl rfl rfl ?_
 refine G.stepD (OD.extract rfl rfl rfl) rfl rfl rfl ?_
 refine G.step (OG.alloc rfl ti27 (zs := [.int .i64 (0), .slice none 0 0]) rfl) rfl rfl rfl ?_
 rintro _ _ ⟨g8, rfl, rfl⟩
 refine G.stepD (OD.assign rfl rfl) rfl rfl rfl ?_
 refine G.stepD0 (OD.store rfl ti27 rfl rfl (us := [.int .i64 (cR (tpNm g3)), v2]) rfl rfl (allC rfl (allC (IsS.one hs5) rfl)) (i := 0) rfl rfl) rfl rfl ?_
 refine G.nil (GE.then_ (GC.seq ?_))
 obtain ⟨hR, hD, hF, hN, hS0, hO⟩ := tpOk (k := g3) (by assumption)
 have hT : tyS (cR (tpNm g3)) (subD (cR (tpNm g3)) (cD (tpNm g3)) u4) = tyS (tpN g3) (tpD g3) := by rw [hR, hD]; exact hO _ (by rw [← hR]; assumption)
 have hS : (tyS (cR (tpNm g3)) (subD (cR (tpNm g3)) (cD (tpNm g3)) u4)).isSome = true := by rw [hT]; exact hS0
 generalize hce : cR (tpNm g3) = cr at *
 generalize hde : subD (cr) (cD (tpNm g3)) u4 = cd at *
 have hcr4 := (tyS_ok hS).1
 have hl0 : cd.length ≤ 1073741824 := Nat.le_trans (cd_small hS) (by decide)
 have hrs := (rtOk hS).slen
 have hrf := (rtOk hS).few
 have hrk := (rtOk hS).rk
 refine GC.region ?_
 refine G.stepD (OD.loadAgg rfl ti27 rfl (i := 0) rfl (us := [.int .i64 (cr), v2]) rfl rfl) rfl rfl rfl ?_
 refine G.step (OG.call [.agg #[.int .i64 (cr), v2]] ent39 rfl rfl rfl rfl (by exact (highestRoot_w hs5 (Ent.ints (i := 1) rfl) (hl0) ((Ent.drop 2 hg)) ((Ent.drop 2 htab))))) rfl rfl rfl ?_
 rintro _ _ ⟨v9, rfl, hs10, rfl⟩
 refine G.stepD (OD.move rfl rfl) rfl rfl rfl ?_
 refine G.stepD (OD.extract rfl rfl rfl) rfl rfl rfl ?_
 refine G.stepD (OD.extract rfl rfl rfl) rfl rfl rfl ?_
 refine G.stepD (OD.assign rfl rfl) rfl rfl rfl ?_
 refine G.stepD (OD.assign rfl rfl) rfl rfl rfl ?_
 refine G.nil (GE.then_ (GC.seq (GC.region ?_)))
 refine G.stepD (OD.loadAgg rfl ti27 rfl (i := 1) rfl (us := [.int .i64 (cr), v2]) rfl rfl) rfl rfl rfl ?_
 refine G.step (OG.call [.agg #[.int .i64 (cr), v2]] ent35 rfl rfl rfl rfl (by exact (positiveRoots_w hs5 (Ent.ints (i := 2) rfl) (hl0) ((Ent.drop 3 hg)) ((Ent.drop 3 htab))))) rfl rfl rfl ?_
 rintro v11 _ ⟨_, u12, rfl, hs13, hs14, hs15, rfl⟩
 have hpo : prOfL cr cd = rSt cr cd := by rw [prOfL, if_pos hS]
 refine G.ownEq (own' := lst 22 v11 u12 :: many (ints 3) u12 (rSt cr cd) :: ints 3 v9 (hrA cr cd) :: box g8 27 [.int .i64 (cr), v2] :: ints 3 v2 cd :: own) (by rw [hpo] <;> rfl) ?_
 have hrl : u12.length = (rSt cr cd).length := by rw [← hpo]; assumption
 skip
 refine G.stepD (OD.assign rfl rfl) rfl rfl rfl ?_
 refine G.nil (GE.then_ (GC.seq (GC.seq (GC.region ?_))))
 refine G.stepD (OD.move rfl rfl) rfl rfl rfl ?_
 refine G.stepD (OD.not rfl rfl) rfl rfl rfl ?_
 refine G.nil (GE.then_ ?_)
 refine GC.cond rfl (fun hc16 => ?_) (fun hc16 => ?_)
 replace hc16 := eq_false_of_not hc16
 refine GC.seq (GC.region ?_)
 refine G.stepD (OD.loadAgg rfl ti27 rfl (i := 3) rfl (us := [.int .i64 (cr), v2]) rfl rfl) rfl rfl rfl ?_
 refine G.step (OG.call [.agg #[.int .i64 (cr), v2]] ent40 rfl rfl rfl rfl (by exact (specHighestRoot_w hs5 (Ent.ints (i := 4) rfl) (hl0)))) rfl rfl rfl ?_
 rintro _ _ ⟨v17, rfl, hs18, rfl⟩
 refine G.stepD (OD.move rfl rfl) rfl rfl rfl ?_
 refine G.stepD (OD.extract rfl rfl rfl) rfl rfl rfl ?_
 refine G.stepD (OD.extract rfl rfl rfl) rfl rfl rfl ?_
 refine G.stepD (OD.assign rfl rfl) rfl rfl rfl ?_
 refine G.stepD (OD.assign rfl rfl) rfl rfl rfl ?_
 refine G.nil (GE.then_ (GC.seq (GC.region ?_)))
 refine G.stepD (OD.move rfl rfl) rfl rfl rfl ?_
 refine G.stepD (OD.not rfl rfl) rfl rfl rfl ?_
 refine G.stepD (OD.assign rfl rfl) rfl rfl rfl ?_
 refine G.nil (GE.then_ (GC.ret (GE.passR ?_)))
 exact GE.body [] 6 (res1 rfl rfl) rfl (⟨congrArg (fun (a0 : Bool) => (.bool (a0) : Value)) ((by rw [hc16]; rfl : (!(oneP cr cd) : Bool) = true)), rfl⟩)
 replace hc16 := eq_true_of_not hc16
 have hH := hiOk2 hc16
 have hHw := hi_wt hH hcr4
 have hwo : wtOf cr cd (hrA cr cd) = wtF cr cd (hrA cr cd) := by rw [wtOf, hS, hHw]; rfl
 have hwl : (wtF cr cd (hrA cr cd)).length = cr.toNat := wtF_len _ _ _
 have hHl := hH.len
 refine GC.skip (GE.then_ (GC.seq (GC.region ?_)))
 refine G.stepD (OD.loadAgg rfl ti27 rfl (i := 3) rfl (us := [.int .i64 (cr), v2]) rfl rfl) rfl rfl rfl ?_
 refine G.stepD (OD.move rfl rfl) rfl rfl rfl ?_
 refine G.step (OG.call [.agg #[.int .i64 (cr), v2], v9] ent28 rfl rfl rfl rfl (by exact (weightOfT_w hs5 (Ent.ints (i := 4) rfl) hs10 (Ent.ints (i := 2) rfl) (hl0) (by omega) ((Ent.drop 5 hg))))) rfl rfl rfl ?_
 rintro v19 _ ⟨_, rfl, hs20, rfl⟩
 refine G.ownEq (own' := ints 3 v19 (wtF cr cd (hrA cr cd)) :: lst 22 v11 u12 :: many (ints 3) u12 (rSt cr cd) :: ints 3 v9 (hrA cr cd) :: box g8 27 [.int .i64 (cr), v2] :: ints 3 v2 cd :: own) (by rw [hwo] <;> rfl) ?_
 skip
 refine G.stepD (OD.assign rfl rfl) rfl rfl rfl ?_
 refine G.nil (GE.then_ (GC.seq (GC.seq (GC.region ?_))))
 refine G.stepD (OD.assign rfl rfl) rfl rfl rfl ?_
 refine G.nil (GE.then_ (GC.block ?_))
 refine GC.loop (ι := Nat) (fun i => [(4, .pointer (some ⟨g8, 0, none⟩)), (5, v9), (7, v11), (10, v19), (11, .int .i64 ((i : Int)))]) (fun i => ints 3 v19 (wtF cr cd (hrA cr cd)) :: lst 22 v11 u12 :: many (ints 3) u12 (rSt cr cd) :: ints 3 v9 (hrA cr cd) :: box g8 27 [.int .i64 (cr), v2] :: ints 3 v2 cd :: own) (fun i => ((i : Int) ≤ cr)) (fun i => cr.toNat - i) 0 (by omega) ⟨rfl, rfl, rfl, rfl, rfl, trivial⟩ [] 0 rfl ?_
 rintro i hi
 refine GC.seq (GC.seq (GC.region ?_))
 refine G.stepD (OD.move rfl rfl) rfl rfl rfl ?_
 refine G.stepD (OD.fieldAddr rfl rfl fa27_0) rfl rfl rfl ?_
 refine G.stepD (OD.load rfl ti3 rfl (i := 4) rfl rfl) rfl rfl rfl ?_
 refine G.stepD (OD.lss rfl rfl rfl) rfl rfl rfl ?_
 refine G.nil (GE.then_ ?_)
 refine GC.cond rfl (fun hc21 => ?_) (fun hc21 => ?_)
 replace hc21 := of_decide_eq_true hc21
 have hHe := hH.ent i (by omega)
 have hHd := hH.dom i (by omega)
 have hHe2 : 1 ≤ (hrA cr cd).getD ((i : Int)).toNat 0 ∧ (hrA cr cd).getD ((i : Int)).toNat 0 ≤ 6 := hHe
 have hHd2 : 0 ≤ (wtF cr cd (hrA cr cd)).getD ((i : Int)).toNat 0 := hHd
 have htop : isRt cr cd ((hrA cr cd).set (i) ((hrA cr cd).getD (i) 0 + 1)) = false := by rw [isRt_rt hS (hi_64 hH)]; rw [hH.top i (by omega), Bool.and_false]
 refine GC.skip (GE.then_ (GC.seq (GC.block (GC.seq (GC.region ?_)))))
 refine G.step (OG.buildInts (xs := []) (is := []) rfl et22 rfl rfl rfl rfl rfl) rfl rfl rfl ?_
 rintro v22 _ ⟨hs23, rfl⟩
 refine G.stepD (OD.move rfl rfl) rfl rfl rfl ?_
 refine G.step (OG.appendInts 0 rfl rfl et22 rfl rfl rfl (Ent.ints (i := 4) rfl) (by first | omega | (simp; omega))) rfl rfl rfl ?_
 rintro v24 _ ⟨hs25, rfl⟩
 refine G.ownEq (own' := ints 3 v24 (hrA cr cd) :: ints 3 v19 (wtF cr cd (hrA cr cd)) :: lst 22 v11 u12 :: many (ints 3) u12 (rSt cr cd) :: ints 3 v9 (hrA cr cd) :: box g8 27 [.int .i64 (cr), v2] :: ints 3 v2 cd :: own) (by rw [List.nil_append] <;> rfl) ?_
 skip
 refine G.stepD (OD.assign rfl rfl) rfl rfl rfl ?_
 refine G.nil (GE.then_ (GC.seq (GC.region ?_)))
 refine G.stepD (OD.move rfl rfl) rfl rfl rfl ?_
 refine G.stepD (OD.move rfl rfl) rfl rfl rfl ?_
 refine G.stepD (OD.indexAddr rfl et22 rfl (Ent.ints (i := 0) rfl) rfl (by omega)) rfl rfl rfl ?_
 refine G.stepD (OD.loadInt rfl ti3 rfl (Ent.ints (i := 0) rfl) (by omega)) rfl rfl rfl ?_
 refine G.stepD (OD.addI rfl rfl rfl (by omega)) rfl rfl rfl ?_
 refine G.stepD (OD.indexAddr rfl et22 rfl (Ent.ints (i := 0) rfl) rfl (by omega)) rfl rfl rfl ?_
 refine G.stepD0 (OD.storeInt rfl ti3 rfl rfl (i := 0) rfl (by omega)) rfl rfl ?_
 refine G.nil (GE.then_ (GC.seq (GC.region ?_)))
 refine G.stepD (OD.move rfl rfl) rfl rfl rfl ?_
 refine G.stepD (OD.move rfl rfl) rfl rfl rfl ?_
 refine G.stepD (OD.indexAddr rfl et22 rfl (Ent.ints (i := 1) rfl) rfl (by first | omega | (simp only [List.length_set, List.length_replicate]; omega))) rfl rfl rfl ?_
 refine G.stepD (OD.loadInt rfl ti3 rfl (Ent.ints (i := 1) rfl) (by first | omega | (simp only [List.length_set, List.length_replicate]; omega))) rfl rfl rfl ?_
 refine G.stepD (OD.lss rfl rfl rfl) rfl rfl rfl ?_
 refine G.stepD (OD.move rfl rfl) rfl rfl rfl ?_
 rcases Bool.eq_false_or_eq_true (decide ((wtF cr cd (hrA cr cd)).getD (i) 0 < 0)) with hg26 | hg26
 have hg26e := hg26
 refine G.at [] 0 (env' := [(4, .pointer (some ⟨g8, 0, none⟩)), (5, v9), (7, v11), (10, v19), (11, .int .i64 ((i : Int))), (41, .int .i64 ((i : Int))), (42, .pointer (some ⟨g8, 0, none⟩)), (43, .int .i64 (cr)), (44, .bool (decide ((i : Int) < cr))), (47, v22), (48, v9), (49, v24), (12, v24), (50, v24), (51, .int .i64 ((i : Int))), (52, elemPtr v24 1 (i)), (53, .int .i64 ((hrA cr cd).getD (i) 0)), (54, .int .i64 (((hrA cr cd).getD (i) 0) + 1)), (55, elemPtr v24 1 (i)), (56, v19), (57, .int .i64 ((i : Int))), (58, elemPtr v19 1 (i)), (59, .int .i64 ((wtF cr cd (hrA cr cd)).getD (i) 0)), (60, .bool true), (61, .bool true)]) (⟨rfl, rfl, rfl, rfl, rfl, rfl, rfl, rfl, rfl, rfl, rfl, rfl, rfl, rfl, rfl, rfl, rfl, rfl, rfl, rfl, rfl, rfl, rfl, (congrArg (fun b => some (Value.bool b)) hg26e), (congrArg (fun b => some (Value.bool b)) hg26e), trivial⟩) rfl ?_
 replace hg26 := of_decide_eq_true hg26
 refine G.skipG rfl rfl rfl rfl rfl rfl (G.skipG rfl rfl rfl rfl rfl rfl (G.skipG rfl rfl rfl rfl rfl rfl (G.skipG rfl rfl rfl rfl rfl rfl (G.skipG rfl rfl rfl rfl rfl rfl ?_))))
 refine G.stepD (OD.pickT rfl rfl rfl) rfl rfl rfl ?_
 refine G.stepD (OD.move rfl rfl) rfl rfl rfl ?_
 refine G.skipG rfl rfl rfl rfl rfl rfl (G.skipG rfl rfl rfl rfl rfl rfl (G.skipG rfl rfl rfl rfl rfl rfl ?_))
 refine G.stepD (OD.pickT rfl rfl rfl) rfl rfl rfl ?_
 refine G.nil (GE.then_ (GC.condT rfl (GC.seq (GC.region ?_))))
 refine G.stepD (OD.assign rfl rfl) rfl rfl rfl ?_
 refine G.nil (GE.then_ (GC.ret (GE.blockR (GE.passR (GE.passR (GE.blockR (GE.passR ?_)))))))
 exact GE.body [] 7 (res1 rfl rfl) rfl (⟨congrArg (fun (a0 : Bool) => (.bool (a0) : Value)) ((by exfalso; omega : (false : Bool) = true)), rfl⟩)
 have hg26e := hg26
 refine G.at [] 0 (env' := [(4, .pointer (some ⟨g8, 0, none⟩)), (5, v9), (7, v11), (10, v19), (11, .int .i64 ((i : Int))), (41, .int .i64 ((i : Int))), (42, .pointer (some ⟨g8, 0, none⟩)), (43, .int .i64 (cr)), (44, .bool (decide ((i : Int) < cr))), (47, v22), (48, v9), (49, v24), (12, v24), (50, v24), (51, .int .i64 ((i : Int))), (52, elemPtr v24 1 (i)), (53, .int .i64 ((hrA cr cd).getD (i) 0)), (54, .int .i64 (((hrA cr cd).getD (i) 0) + 1)), (55, elemPtr v24 1 (i)), (56, v19), (57, .int .i64 ((i : Int))), (58, elemPtr v19 1 (i)), (59, .int .i64 ((wtF cr cd (hrA cr cd)).getD (i) 0)), (60, .bool false), (61, .bool false)]) (⟨rfl, rfl, rfl, rfl, rfl, rfl, rfl, rfl, rfl, rfl, rfl, rfl, rfl, rfl, rfl, rfl, rfl, rfl, rfl, rfl, rfl, rfl, rfl, (congrArg (fun b => some (Value.bool b)) hg26e), (congrArg (fun b => some (Value.bool b)) hg26e), trivial⟩) rfl ?_
 replace hg26 := of_decide_eq_false hg26
 refine G.stepGD (OD.move rfl rfl) rfl rfl rfl rfl rfl ?_
 refine G.stepGD (OD.move rfl rfl) rfl rfl rfl rfl rfl ?_
 refine G.stepGD (OD.indexAddr rfl et22 rfl (Ent.ints (i := 4) rfl) rfl (by first | omega | (simp only [List.length_set, List.length_replicate]; omega))) rfl rfl rfl rfl rfl ?_
 refine G.stepGD (OD.loadInt rfl ti3 rfl (Ent.ints (i := 4) rfl) (by first | omega | (simp only [List.length_set, List.length_replicate]; omega))) rfl rfl rfl rfl rfl ?_
 refine G.stepGD (OD.lss rfl rfl rfl) rfl rfl rfl rfl rfl ?_
 refine G.stepD (OD.pickF rfl rfl rfl) rfl rfl rfl ?_
 refine G.stepD (OD.move rfl rfl) rfl rfl rfl ?_
 rcases Bool.eq_false_or_eq_true (decide ((hrA cr cd).getD (i) 0 < 1)) with hg27 | hg27
 have hg27e := hg27
 refine G.at [] 0 (env' := [(4, .pointer (some ⟨g8, 0, none⟩)), (5, v9), (7, v11), (10, v19), (11, .int .i64 ((i : Int))), (41, .int .i64 ((i : Int))), (42, .pointer (some ⟨g8, 0, none⟩)), (43, .int .i64 (cr)), (44, .bool (decide ((i : Int) < cr))), (47, v22), (48, v9), (49, v24), (12, v24), (50, v24), (51, .int .i64 ((i : Int))), (52, elemPtr v24 1 (i)), (53, .int .i64 ((hrA cr cd).getD (i) 0)), (54, .int .i64 (((hrA cr cd).getD (i) 0) + 1)), (55, elemPtr v24 1 (i)), (56, v19), (57, .int .i64 ((i : Int))), (58, elemPtr v19 1 (i)), (59, .int .i64 ((wtF cr cd (hrA cr cd)).getD (i) 0)), (60, .bool false), (61, .bool false), (62, v9), (63, .int .i64 ((i : Int))), (64, elemPtr v9 1 (i)), (65, .int .i64 ((hrA cr cd).getD (i) 0)), (66, .bool true), (67, .bool true), (68, .bool true)]) (⟨rfl, rfl, rfl, rfl, rfl, rfl, rfl, rfl, rfl, rfl, rfl, rfl, rfl, rfl, rfl, rfl, rfl, rfl, rfl, rfl, rfl, rfl, rfl, rfl, rfl, rfl, rfl, rfl, rfl, (congrArg (fun b => some (Value.bool b)) hg27e), (congrArg (fun b => some (Value.bool b)) hg27e), (congrArg (fun b => some (Value.bool b)) hg27e), trivial⟩) rfl ?_
 replace hg27 := of_decide_eq_true hg27
 refine G.skipG rfl rfl rfl rfl rfl rfl (G.skipG rfl rfl rfl rfl rfl rfl (G.skipG rfl rfl rfl rfl rfl rfl ?_))
 refine G.stepD (OD.pickT rfl rfl rfl) rfl rfl rfl ?_
 refine G.nil (GE.then_ (GC.condT rfl (GC.seq (GC.region ?_))))
 refine G.stepD (OD.assign rfl rfl) rfl rfl rfl ?_
 refine G.nil (GE.then_ (GC.ret (GE.blockR (GE.passR (GE.passR (GE.blockR (GE.passR ?_)))))))
 exact GE.body [] 7 (res1 rfl rfl) rfl (⟨congrArg (fun (a0 : Bool) => (.bool (a0) : Value)) ((by exfalso; omega : (false : Bool) = true)), rfl⟩)
 have hg27e := hg27
 refine G.at [] 0 (env' := [(4, .pointer (some ⟨g8, 0, none⟩)), (5, v9), (7, v11), (10, v19), (11, .int .i64 ((i : Int))), (41, .int .i64 ((i : Int))), (42, .pointer (some ⟨g8, 0, none⟩)), (43, .int .i64 (cr)), (44, .bool (decide ((i : Int) < cr))), (47, v22), (48, v9), (49, v24), (12, v24), (50, v24), (51, .int .i64 ((i : Int))), (52, elemPtr v24 1 (i)), (53, .int .i64 ((hrA cr cd).getD (i) 0)), (54, .int .i64 (((hrA cr cd).getD (i) 0) + 1)), (55, elemPtr v24 1 (i)), (56, v19), (57, .int .i64 ((i : Int))), (58, elemPtr v19 1 (i)), (59, .int .i64 ((wtF cr cd (hrA cr cd)).getD (i) 0)), (60, .bool false), (61, .bool false), (62, v9), (63, .int .i64 ((i : Int))), (64, elemPtr v9 1 (i)), (65, .int .i64 ((hrA cr cd).getD (i) 0)), (66, .bool false), (67, .bool false), (68, .bool false)]) (⟨rfl, rfl, rfl, rfl, rfl, rfl, rfl, rfl, rfl, rfl, rfl, rfl, rfl, rfl, rfl, rfl, rfl, rfl, rfl, rfl, rfl, rfl, rfl, rfl, rfl, rfl, rfl, rfl, rfl, (congrArg (fun b => some (Value.bool b)) hg27e), (congrArg (fun b => some (Value.bool b)) hg27e), (congrArg (fun b => some (Value.bool b)) hg27e), trivial⟩) rfl ?_
 replace hg27 := of_decide_eq_false hg27
 refine G.stepGD (OD.loadAgg rfl ti27 rfl (i := 5) rfl (us := [.int .i64 (cr), v2]) rfl rfl) rfl rfl rfl rfl rfl ?_
 refine G.stepGD (OD.move rfl rfl) rfl rfl rfl rfl rfl ?_
 refine G.stepG (OG.call [.agg #[.int .i64 (cr), v2], v24] ent41 rfl rfl rfl rfl (by exact (isRoot_w hs5 (Ent.ints (i := 6) rfl) hs25 (Ent.ints (i := 0) rfl) (hl0) (by rw [List.length_set]; omega) (hi_64 hH) ((Ent.drop 7 hg)) ((Ent.drop 7 htab))))) rfl rfl rfl rfl rfl ?_
 rintro _ _ ⟨rfl, rfl⟩
 refine G.stepD (OD.pickF rfl rfl rfl) rfl rfl rfl ?_
 refine G.nil (GE.then_ ?_)
 refine GC.cond rfl (fun hc28 => ?_) (fun hc28 => ?_)
 exact Bool.noConfusion (hc28.symm.trans htop)
 refine GC.skip (GE.blockN (GE.then_ (GC.region ?_)))
 refine G.stepD (OD.move rfl rfl) rfl rfl rfl ?_
 refine G.stepD (OD.addI rfl rfl rfl (by first | omega | (simp only [List.length_set, List.length_replicate]; omega))) rfl rfl rfl ?_
 refine G.stepD (OD.assign rfl rfl) rfl rfl rfl ?_
 refine G.nil ?_
 exact GE.again (i + 1) (by omega) (by first | omega | (dsimp only; omega)) ⟨rfl, rfl, rfl, rfl, rfl, trivial⟩ [1, 1, 1, 1, 1, 1] 1 rfl
 replace hc21 := of_decide_eq_false hc21
 refine GC.exit (GE.pass (GE.pass (GE.hit (GE.then_ (GC.seq (GC.seq (GC.region ?_)))))))
 refine G.stepD (OD.assign rfl rfl) rfl rfl rfl ?_
 refine G.nil (GE.then_ (GC.block ?_))
 refine GC.loop (ι := Nat) (fun p => [(4, .pointer (some ⟨g8, 0, none⟩)), (5, v9), (7, v11), (13, .int .i64 ((p : Int)))]) (fun p => ints 3 v19 (wtF cr cd (hrA cr cd)) :: lst 22 v11 u12 :: many (ints 3) u12 (rSt cr cd) :: ints 3 v9 (hrA cr cd) :: box g8 27 [.int .i64 (cr), v2] :: ints 3 v2 cd :: own) (fun p => (p ≤ (rSt cr cd).length)) (fun p => (rSt cr cd).length - p) 0 (by omega) ⟨rfl, rfl, rfl, rfl, trivial⟩ [] 0 rfl ?_
 rintro p hp
 refine GC.seq (GC.seq (GC.region ?_))
 refine G.stepD (OD.move rfl rfl) rfl rfl rfl ?_
 refine G.stepD (OD.move rfl rfl) rfl rfl rfl ?_
 refine G.stepD (OD.len rfl rfl et39 rfl (Ent.lst (i := 1) rfl)) rfl rfl rfl ?_
 refine G.stepD (OD.lss rfl rfl rfl) rfl rfl rfl ?_
 refine G.nil (GE.then_ ?_)
 refine GC.cond rfl (fun hc29 => ?_) (fun hc29 => ?_)
 replace hc29 := of_decide_eq_true hc29
 have hpl := ((rtOk hS).sget (show p < (rSt cr cd).length by omega)).1
 have hHa := hH.all p (by omega)
 refine GC.skip (GE.then_ (GC.seq (GC.block (GC.seq (GC.region ?_)))))
 refine G.stepD (OD.assign rfl rfl) rfl rfl rfl ?_
 refine G.nil (GE.then_ (GC.block ?_))
 refine GC.loop (ι := Nat) (fun j => [(4, .pointer (some ⟨g8, 0, none⟩)), (5, v9), (7, v11), (13, .int .i64 ((p : Int))), (14, .int .i64 ((j : Int)))]) (fun j => ints 3 v19 (wtF cr cd (hrA cr cd)) :: lst 22 v11 u12 :: many (ints 3) u12 (rSt cr cd) :: ints 3 v9 (hrA cr cd) :: box g8 27 [.int .i64 (cr), v2] :: ints 3 v2 cd :: own) (fun j => ((j : Int) ≤ cr)) (fun j => cr.toNat - j) 0 (by omega) ⟨rfl, rfl, rfl, rfl, rfl, trivial⟩ [] 0 rfl ?_
 rintro j hj
 refine GC.seq (GC.seq (GC.region ?_))
 refine G.stepD (OD.move rfl rfl) rfl rfl rfl ?_
 refine G.stepD (OD.fieldAddr rfl rfl fa27_0) rfl rfl rfl ?_
 refine G.stepD (OD.load rfl ti3 rfl (i := 4) rfl rfl) rfl rfl rfl ?_
 refine G.stepD (OD.lss rfl rfl rfl) rfl rfl rfl ?_
 refine G.nil (GE.then_ ?_)
 refine GC.cond rfl (fun hc30 => ?_) (fun hc30 => ?_)
 replace hc30 := of_decide_eq_true hc30
 have hHj := hHa j (by omega)
 have hHj2 : ((rSt cr cd).getD ((p : Int)).toNat []).getD ((j : Int)).toNat 0 ≤ (hrA cr cd).getD ((j : Int)).toNat 0 := hHj
 refine GC.skip (GE.then_ (GC.seq (GC.block (GC.seq ?_))))
 refine GC.at [] 0 (env' := [(4, .pointer (some ⟨g8, 0, none⟩)), (5, v9), (7, v11), (13, .int .i64 ((p : Int))), (14, .int .i64 ((j : Int)))]) ⟨rfl, rfl, rfl, rfl, rfl, trivial⟩ rfl ?_
 refine GC.par (its := [⟨85, [], [], [], [], fun _ => v11, fun _ => True, fun _ => []⟩,
     ⟨86, [], [], [], [], fun _ => .int .i64 ((p : Int)), fun _ => True, fun _ => []⟩,
     ⟨87, [(0, 85), (1, 86)], [], [], [], fun _ => elemPtr v11 1 (p), fun _ => True, fun _ => []⟩,
     ⟨88, [(2, 87)], [], [], [], fun _ => (u12.getD (p) undef), fun _ => True, fun _ => []⟩,
     ⟨89, [], [], [], [], fun _ => .int .i64 ((j : Int)), fun _ => True, fun _ => []⟩,
     ⟨90, [(3, 88), (4, 89)], [], [], [], fun _ => elemPtr ((u12.getD (p) undef)) 1 (j), fun _ => True, fun _ => []⟩,
     ⟨91, [(5, 90)], [], [], [], fun _ => .int .i64 (((rSt cr cd).getD (p) []).getD (j) 0), fun _ => True, fun _ => []⟩,
     ⟨92, [], [], [], [], fun _ => v9, fun _ => True, fun _ => []⟩,
     ⟨93, [], [], [], [], fun _ => .int .i64 ((j : Int)), fun _ => True, fun _ => []⟩,
     ⟨94, [(7, 92), (8, 93)], [], [], [], fun _ => elemPtr v9 1 (j), fun _ => True, fun _ => []⟩,
     ⟨95, [(9, 94)], [], [], [], fun _ => .int .i64 ((hrA cr cd).getD (j) 0), fun _ => True, fun _ => []⟩,
     ⟨96, [(6, 91), (10, 95)], [], [], [], fun _ => .bool (decide ((hrA cr cd).getD (j) 0 < ((rSt cr cd).getD (p) []).getD (j) 0)), fun _ => True, fun _ => []⟩]) (by kernel_rfl) (by kernel_rfl) (POps.cons ?_ (POps.cons ?_ (POps.cons ?_ (POps.cons ?_ (POps.cons ?_ (POps.cons ?_ (POps.cons ?_ (POps.cons ?_ (POps.cons ?_ (POps.cons ?_ (POps.cons ?_ (POps.cons ?_ POps.nil)))))))))))) ?_
 intro θ R hd
 exact Opp.plain (OG.imp (OD.move rfl rfl) (by rintro _ _ ⟨rfl, rfl⟩; exact ⟨[], rfl, trivial, rfl⟩)) rfl
 intro θ R hd
 exact Opp.plain (OG.imp (OD.move rfl rfl) (by rintro _ _ ⟨rfl, rfl⟩; exact ⟨[], rfl, trivial, rfl⟩)) rfl
 intro θ R hd
 obtain ⟨h0d, h1d, _⟩ := hd
 exact Opp.plain (OG.imp (OD.indexAddr rfl et39 rfl (Ent.lst (i := 1) rfl) rfl (by omega)) (by rintro _ _ ⟨rfl, rfl⟩; exact ⟨[], rfl, trivial, rfl⟩)) rfl
 intro θ R hd
 obtain ⟨h2d, _⟩ := hd
 exact Opp.plain (OG.imp (OD.loadElem rfl ti22 rfl (Ent.lst (i := 1) rfl) (by omega) rfl) (by rintro _ _ ⟨rfl, rfl⟩; exact ⟨[], rfl, trivial, rfl⟩)) rfl
 intro θ R hd
 exact Opp.plain (OG.imp (OD.move rfl rfl) (by rintro _ _ ⟨rfl, rfl⟩; exact ⟨[], rfl, trivial, rfl⟩)) rfl
 intro θ R hd
 obtain ⟨h3d, h4d, _⟩ := hd
 exact Opp.plain (OG.imp (OD.indexAddr rfl et22 rfl (Ent.manyInts (i := 2) rfl ⟨by first | omega | (simp; omega), by first | omega | (simp; omega)⟩) rfl (by omega)) (by rintro _ _ ⟨rfl, rfl⟩; exact ⟨[], rfl, trivial, rfl⟩)) rfl
 intro θ R hd
 obtain ⟨h5d, _⟩ := hd
 exact Opp.plain (OG.imp (OD.loadInt rfl ti3 rfl (Ent.manyInts (i := 2) rfl ⟨by first | omega | (simp; omega), by first | omega | (simp; omega)⟩) (by omega)) (by rintro _ _ ⟨rfl, rfl⟩; exact ⟨[], rfl, trivial, rfl⟩)) rfl
 intro θ R hd
 exact Opp.plain (OG.imp (OD.move rfl rfl) (by rintro _ _ ⟨rfl, rfl⟩; exact ⟨[], rfl, trivial, rfl⟩)) rfl
 intro θ R hd
 exact Opp.plain (OG.imp (OD.move rfl rfl) (by rintro _ _ ⟨rfl, rfl⟩; exact ⟨[], rfl, trivial, rfl⟩)) rfl
 intro θ R hd
 obtain ⟨h7d, h8d, _⟩ := hd
 exact Opp.plain (OG.imp (OD.indexAddr rfl et22 rfl (Ent.ints (i := 3) rfl) rfl (by omega)) (by rintro _ _ ⟨rfl, rfl⟩; exact ⟨[], rfl, trivial, rfl⟩)) rfl
 intro θ R hd
 obtain ⟨h9d, _⟩ := hd
 exact Opp.plain (OG.imp (OD.loadInt rfl ti3 rfl (Ent.ints (i := 3) rfl) (by omega)) (by rintro _ _ ⟨rfl, rfl⟩; exact ⟨[], rfl, trivial, rfl⟩)) rfl
 intro θ R hd
 obtain ⟨h6d, h10d, _⟩ := hd
 exact Opp.plain (OG.imp (OD.gtr rfl rfl rfl) (by rintro _ _ ⟨rfl, rfl⟩; exact ⟨[], rfl, trivial, rfl⟩)) rfl
 intro θ hall
 obtain ⟨_, _, _, _, _, _, _, _, _, _, _, _, _⟩ := hall
 refine G.at [] 0 (env' := [(4, .pointer (some ⟨g8, 0, none⟩)), (5, v9), (7, v11), (13, .int .i64 ((p : Int))), (14, .int .i64 ((j : Int))), (96, .bool (decide ((hrA cr cd).getD (j) 0 < ((rSt cr cd).getD (p) []).getD (j) 0)))]) ⟨rfl, rfl, rfl, rfl, rfl, rfl, trivial⟩ (own' := ints 3 v19 (wtF cr cd (hrA cr cd)) :: lst 22 v11 u12 :: many (ints 3) u12 (rSt cr cd) :: ints 3 v9 (hrA cr cd) :: box g8 27 [.int .i64 (cr), v2] :: ints 3 v2 cd :: own) rfl ?_
 show G _ _ _ [] _ _ _ _
 refine G.nil (GE.then_ ?_)
 refine GC.cond rfl (fun hc31 => ?_) (fun hc31 => ?_)
 replace hc31 := of_decide_eq_true hc31
 refine GC.seq (GC.region ?_)
 refine G.stepD (OD.assign rfl rfl) rfl rfl rfl ?_
 refine G.nil (GE.then_ (GC.ret (GE.blockR (GE.passR (GE.passR (GE.blockR (GE.blockR (GE.passR (GE.passR (GE.blockR (GE.passR ?_)))))))))))
 exact GE.body [] 6 (res1 rfl rfl) rfl (⟨congrArg (fun (a0 : Bool) => (.bool (a0) : Value)) ((by exfalso; omega : (false : Bool) = true)), rfl⟩)
 replace hc31 := of_decide_eq_false hc31
 refine GC.skip (GE.blockN (GE.then_ (GC.region ?_)))
 refine G.stepD (OD.move rfl rfl) rfl rfl rfl ?_
 refine G.stepD (OD.addI rfl rfl rfl (by omega)) rfl rfl rfl ?_
 refine G.stepD (OD.assign rfl rfl) rfl rfl rfl ?_
 refine G.nil ?_
 exact GE.again (j + 1) (by omega) (by first | omega | (dsimp only; omega)) ⟨rfl, rfl, rfl, rfl, rfl, trivial⟩ [] 0 rfl
 replace hc30 := of_decide_eq_false hc30
 refine GC.exit (GE.pass (GE.pass (GE.hit (GE.blockN (GE.then_ (GC.region ?_))))))
 refine G.stepD (OD.move rfl rfl) rfl rfl rfl ?_
 refine G.stepD (OD.addI rfl rfl rfl (by omega)) rfl rfl rfl ?_
 refine G.stepD (OD.assign rfl rfl) rfl rfl rfl ?_
 refine G.nil ?_
 exact GE.again (p + 1) (by omega) (by first | omega | (dsimp only; omega)) ⟨rfl, rfl, rfl, rfl, trivial⟩ [] 0 rfl
 replace hc29 := of_decide_eq_false hc29
 refine GC.exit (GE.pass (GE.pass (GE.hit (GE.then_ (GC.seq (GC.region ?_))))))
 refine G.stepD (OD.assign rfl rfl) rfl rfl rfl ?_
 refine G.nil (GE.then_ (GC.ret ?_))
 exact GE.body [] 6 (res1 rfl rfl) rfl (⟨rfl, rfl⟩)
end Go.Proofs.YtgelkakjmbiibaaGreatDoor
