/-
  The law on words.
-/
import Derived.Test.YtgelkakjmbiibaaGreatDoorFct
import Derived.Test.YtgelkakjmbiibaaGreatDoorWWds
import Derived.Test.YtgelkakjmbiibaaGreatDoorWNrm
import Derived.Test.YtgelkakjmbiibaaGreatDoorWInv
import Derived.Test.YtgelkakjmbiibaaGreatDoorWAcT
import Derived.Test.YtgelkakjmbiibaaGreatDoorGrI
import Derived.Test.YtgelkakjmbiibaaGreatDoorZ21
namespace Go.Proofs.YtgelkakjmbiibaaGreatDoor
set_option linter.unusedVariables false
set_option linter.unusedSimpArgs false
open Go.RowKit
theorem ent19 : ∀ us w, (callFunc 19 us).run Tryz.prog w = .ok (.enter 19 us) w := fun us w => by kernel_rfl
theorem ent20 : ∀ us w, (callFunc 20 us).run Tryz.prog w = .ok (.enter 20 us) w := fun us w => by kernel_rfl
theorem ent21 : ∀ us w, (callFunc 21 us).run Tryz.prog w = .ok (.enter 21 us) w := fun us w => by kernel_rfl
theorem ent23 : ∀ us w, (callFunc 23 us).run Tryz.prog w = .ok (.enter 23 us) w := fun us w => by kernel_rfl
theorem ent24 : ∀ us w, (callFunc 24 us).run Tryz.prog w = .ok (.enter 24 us) w := fun us w => by kernel_rfl
theorem ent25 : ∀ us w, (callFunc 25 us).run Tryz.prog w = .ok (.enter 25 us) w := fun us w => by kernel_rfl
theorem ent26 : ∀ us w, (callFunc 26 us).run Tryz.prog w = .ok (.enter 26 us) w := fun us w => by kernel_rfl
theorem ent27 : ∀ us w, (callFunc 27 us).run Tryz.prog w = .ok (.enter 27 us) w := fun us w => by kernel_rfl
theorem ent28 : ∀ us w, (callFunc 28 us).run Tryz.prog w = .ok (.enter 28 us) w := fun us w => by kernel_rfl
theorem ent29 : ∀ us w, (callFunc 29 us).run Tryz.prog w = .ok (.enter 29 us) w := fun us w => by kernel_rfl
theorem bt4 : BT Tryz.prog 4 := ⟨fun a b w => by cases a <;> cases b <;> kernel_rfl, fun a b w => by cases a <;> cases b <;> kernel_rfl⟩
set_option maxHeartbeats 4000000 in
set_option maxRecDepth 100000 in
theorem lawWords {W : World} {own : List Asn} {vcode : Value} {code : List Int}  (scode : IsS vcode) (ecode : Ent own fun w => Byts w vcode code)  (hl : code.length ≤ 9223372036854775807) (hg : Ent own fun w => ∃ m, w.cell? ⟨Tryz.l146_ren.g 1, 0, none⟩ = some (.int .i64 m)) (htab : Ent own Pow10) : Spec Tryz.prog 5 [vcode] W own (fun v ow => v = .bool (true) ∧ ow = own) := by
 refine Spec.enter Tryz.f5 _ Tryz.func5 rfl (n := 133) rfl rfl ?_
 refine GC.seq (GC.region ?_)
 refine G.stepD (OD.assign rfl rfl) rfl rfl rfl ?_
 refine G.nil (GE.then_ (GC.seq (GC.seq (GC.region ?_))))
 refine G.stepD (OD.move rfl rfl) rfl rfl rfl ?_
 refine G.step (OG.call [vcode] ent19 rfl rfl rfl rfl (by exact (big_w scode ecode (by omega)))) rfl rfl rfl ?_
 rintro _ _ ⟨rfl, hzz⟩; obtain rfl := hzz.symm
 refine G.nil (GE.then_ ?_)
 refine GC.cond rfl (fun hc1 => ?_) (fun hc1 => ?_)
 replace hc1 := of_decide_eq_true hc1
 refine GC.seq (GC.region ?_)
 refine G.stepD (OD.assign rfl rfl) rfl rfl rfl ?_
 refine G.nil (GE.then_ (GC.ret (GE.passR ?_)))
 exact GE.body [] 0 (res1 rfl rfl) rfl (⟨rfl, rfl⟩)
 replace hc1 := of_decide_eq_false hc1
 refine GC.skip (GE.then_ (GC.seq (GC.region ?_)))
 refine G.stepD (OD.move rfl rfl) rfl rfl rfl ?_
 refine G.step (OG.call [vcode] ent20 rfl rfl rfl rfl (by exact (drawWords_w scode ecode (by omega)))) rfl rfl rfl ?_
 rintro _ _ ⟨v2, v3, v4, v5, g6, u7, u8, u9, rfl, hs10, hs11, hs12, hs13, hs14, hs15, hs16, hs17, rfl⟩
 refine G.stepD (OD.move rfl rfl) rfl rfl rfl ?_
 refine G.stepD (OD.extract rfl rfl rfl) rfl rfl rfl ?_
 refine G.stepD (OD.extract rfl rfl rfl) rfl rfl rfl ?_
 refine G.stepD (OD.extract rfl rfl rfl) rfl rfl rfl ?_
 refine G.stepD (OD.extract rfl rfl rfl) rfl rfl rfl ?_
 refine G.step (OG.alloc rfl ti27 (zs := [.int .i64 (0), .slice none 0 0]) rfl) rfl rfl rfl ?_
 rintro _ _ ⟨g18, rfl, rfl⟩
 refine G.stepD0 (OD.store rfl ti27 rfl rfl (us := [.int .i64 (cR (smNm g6)), v2]) rfl rfl (allC rfl (allC (IsS.one hs10) rfl)) (i := 0) rfl rfl) rfl rfl ?_
 refine G.stepD (OD.assign rfl rfl) rfl rfl rfl ?_
 refine G.stepD (OD.assign rfl rfl) rfl rfl rfl ?_
 refine G.stepD (OD.assign rfl rfl) rfl rfl rfl ?_
 refine G.nil (GE.then_ (GC.seq ?_))
 obtain ⟨hS, hg0, hgt⟩ := grOk (k := g6) (by assumption)
 obtain ⟨hR, hD, hN1, hN3⟩ := sm_cR (k := g6) (by assumption)
 have hinv : ∀ {v : List Int}, rngW (smN g6) v → v.length ≤ 60 → (ivL (smN g6) (smD g6) v).length = (nwOf (smN g6) (smD g6) v).length := fun hv hl => invLen (by assumption) hv hl
 rw [← hR, ← hD] at hS hg0 hgt hinv
 generalize hce : cR (smNm g6) = cr at *
 generalize hde : cD (smNm g6) = cd at *
 have hcr4 := (tyS_ok hS).1
 have hl0 : cd.length ≤ 1073741824 := Nat.le_trans (cd_small hS) (by decide)
 have hW := wlOk hS
 have hph := phOk hS
 obtain ⟨hsw, hz4⟩ := sm_of (show u9.length = (cr : Int).toNat ∧ ∀ q ∈ u9, -4 ≤ q ∧ q ≤ 4 from by assumption)
 obtain ⟨hvl, hrv⟩ := (show u8.length ≤ 11 ∧ ∀ q ∈ u8, 0 ≤ q ∧ q < cr from by assumption)
 obtain ⟨hul, hru⟩ := (show u7.length ≤ 12 ∧ ∀ q ∈ u7, 0 ≤ q ∧ q < cr from by assumption)
 have hL : WdLaw cr cd u7 u8 u9 := hg0.wdLaw hgt hW hph hS hru hul hrv hvl hsw.len hz4
 have hzl := hsw.len
 obtain ⟨hq, hqe⟩ := hL.len
 have hmod : ((u8.length : Int) - ((nwOf cr cd u8).length : Int)).tmod 2 = 0 := by rw [show ((u8.length : Int) - ((nwOf cr cd u8).length : Int)) = 2 * (hq : Int) by omega]; exact Int.mul_tmod_right 2 _
 have hbl := hL.back
 have hiv : (ivL cr cd u8).length = (nwOf cr cd u8).length := hinv hrv (by omega)
 have hb1 : seB cr cd u8 (nwOf cr cd u8) = true := hL.same
 have hb2 : samB (nwOf cr cd (nwOf cr cd u8)) (nwOf cr cd u8) = true := samB_of hL.again
 have hb3 : samB (actOf cr cd u8 u9) (actOf cr cd (nwOf cr cd u8) u9) = true := samB_of hL.act
 have hb4 : samB (actOf cr cd u7 (actOf cr cd u8 u9)) (actOf cr cd (([] ++ u7) ++ u8) u9) = true := by rw [List.nil_append]; exact samB_of hL.app
 have hb5 : samB (actOf cr cd u8 (wtOf cr cd u9)) (wtOf cr cd (arOf cr cd u8 u9)) = true := samB_of hL.root
 have hl1 := actOf_len cr cd u8 u9
 have hl2 := arOf_len cr cd u8 u9
 have hl3 := wtOf_len cr cd u9
 have hl4 := nwOf_len cr cd u8
 have hl5 := ivOf_len cr cd u8
 have hl6 : (([] ++ u7) ++ u8).length ≤ 23 := by rw [List.nil_append, List.length_append]; omega
 have hl7 : (([] ++ u8) ++ ivOf cr cd u8).length ≤ 20000 := by rw [List.nil_append, List.length_append]; omega
 have hun : (nwOf cr cd (([] ++ u8) ++ ivOf cr cd u8)).length = 0 := by rw [List.nil_append]; exact hL.undo
 refine GC.region ?_
 refine G.stepD (OD.loadAgg rfl ti27 rfl (i := 0) rfl (us := [.int .i64 (cr), v2]) rfl rfl) rfl rfl rfl ?_
 refine G.stepD (OD.move rfl rfl) rfl rfl rfl ?_
 refine G.step (OG.call [.agg #[.int .i64 (cr), v2], v4] ent21 rfl rfl rfl rfl (by exact (normalWord_w hs10 (Ent.ints (i := 1) rfl) hs12 (Ent.ints (i := 3) rfl) (hl0) (by omega) ((Ent.drop 5 hg))))) rfl rfl rfl ?_
 rintro v19 _ ⟨_, rfl, hs20, rfl⟩
 refine G.stepD (OD.assign rfl rfl) rfl rfl rfl ?_
 refine G.nil (GE.then_ (GC.seq (GC.seq (GC.region ?_))))
 refine G.stepD (OD.loadAgg rfl ti27 rfl (i := 1) rfl (us := [.int .i64 (cr), v2]) rfl rfl) rfl rfl rfl ?_
 refine G.stepD (OD.move rfl rfl) rfl rfl rfl ?_
 refine G.stepD (OD.move rfl rfl) rfl rfl rfl ?_
 refine G.step (OG.imp (K' := fun v ow => v = .bool true ∧ ow = ints 3 v19 (nwOf cr cd u8) :: box g18 27 [.int .i64 (cr), v2] :: ints 3 v2 cd :: ints 3 v3 u7 :: ints 3 v4 u8 :: ints 3 v5 u9 :: own) (OG.call [.agg #[.int .i64 (cr), v2], v4, v19] ent23 rfl rfl rfl rfl (by exact (sameElement_w hs10 (Ent.ints (i := 2) rfl) hs12 (Ent.ints (i := 4) rfl) hs20 (Ent.ints (i := 0) rfl) (hl0) (by omega) (by omega) ((Ent.drop 6 hg))))) (by rintro _ _ ⟨rfl, rfl⟩; exact ⟨congrArg Value.bool (hb1), rfl⟩)) rfl rfl rfl ?_
 rintro _ _ ⟨rfl, rfl⟩
 refine G.stepD (OD.not rfl rfl) rfl rfl rfl ?_
 refine G.stepD (OD.move rfl rfl) rfl rfl rfl ?_
 refine G.stepGD (OD.loadAgg rfl ti27 rfl (i := 1) rfl (us := [.int .i64 (cr), v2]) rfl rfl) rfl rfl rfl rfl rfl ?_
 refine G.stepGD (OD.move rfl rfl) rfl rfl rfl rfl rfl ?_
 refine G.stepG (OG.call [.agg #[.int .i64 (cr), v2], v19] ent21 rfl rfl rfl rfl (by exact (normalWord_w hs10 (Ent.ints (i := 2) rfl) hs20 (Ent.ints (i := 0) rfl) (hl0) (by omega) ((Ent.drop 6 hg))))) rfl rfl rfl rfl rfl ?_
 rintro v21 _ ⟨_, rfl, hs22, rfl⟩
 refine G.stepGD (OD.move rfl rfl) rfl rfl rfl rfl rfl ?_
 refine G.stepG (OG.imp (K' := fun v ow => v = .bool true ∧ ow = ints 3 v21 (nwOf cr cd (nwOf cr cd u8)) :: ints 3 v19 (nwOf cr cd u8) :: box g18 27 [.int .i64 (cr), v2] :: ints 3 v2 cd :: ints 3 v3 u7 :: ints 3 v4 u8 :: ints 3 v5 u9 :: own) (OG.call [v21, v19] ent25 rfl rfl rfl rfl (by exact (lawsInts_s hs22 (Ent.ints (i := 0) rfl) hs20 (Ent.ints (i := 1) rfl) (Nat.le_trans (nwOf_len _ _ _ ) (by decide))))) (by rintro _ _ ⟨rfl, rfl⟩; exact ⟨congrArg Value.bool (hb2), rfl⟩)) rfl rfl rfl rfl rfl ?_
 rintro _ _ ⟨rfl, rfl⟩
 refine G.stepGD (OD.not rfl rfl) rfl rfl rfl rfl rfl ?_
 refine G.stepD (OD.pickF rfl rfl rfl) rfl rfl rfl ?_
 refine G.stepD (OD.move rfl rfl) rfl rfl rfl ?_
 refine G.stepGD (OD.move rfl rfl) rfl rfl rfl rfl rfl ?_
 refine G.stepGD (OD.len rfl rfl et22 rfl (Ent.ints (i := 1) rfl)) rfl rfl rfl rfl rfl ?_
 refine G.stepGD (OD.move rfl rfl) rfl rfl rfl rfl rfl ?_
 refine G.stepGD (OD.len rfl rfl et22 rfl (Ent.ints (i := 5) rfl)) rfl rfl rfl rfl rfl ?_
 refine G.stepGD (OD.eqv (OD.gtr rfl rfl rfl) (congrArg Value.bool ((decide_eq_false (by omega)) : _ = false))) rfl rfl rfl rfl rfl ?_
 refine G.stepD (OD.pickF rfl rfl rfl) rfl rfl rfl ?_
 refine G.stepD (OD.move rfl rfl) rfl rfl rfl ?_
 refine G.stepGD (OD.move rfl rfl) rfl rfl rfl rfl rfl ?_
 refine G.stepGD (OD.len rfl rfl et22 rfl (Ent.ints (i := 5) rfl)) rfl rfl rfl rfl rfl ?_
 refine G.stepGD (OD.move rfl rfl) rfl rfl rfl rfl rfl ?_
 refine G.stepGD (OD.len rfl rfl et22 rfl (Ent.ints (i := 1) rfl)) rfl rfl rfl rfl rfl ?_
 refine G.stepGD (OD.subI rfl rfl rfl (by omega)) rfl rfl rfl rfl rfl ?_
 refine G.stepGD (OD.rem rfl rfl rfl (by omega)) rfl rfl rfl rfl rfl ?_
 refine G.stepGD (OD.eqv (OD.neq rfl rfl rfl) (congrArg Value.bool ((by rw [bne_eq_false_iff_eq]; exact hmod) : _ = false))) rfl rfl rfl rfl rfl ?_
 refine G.stepD (OD.pickF rfl rfl rfl) rfl rfl rfl ?_
 refine G.stepD (OD.move rfl rfl) rfl rfl rfl ?_
 refine G.stepGD (OD.loadAgg rfl ti27 rfl (i := 2) rfl (us := [.int .i64 (cr), v2]) rfl rfl) rfl rfl rfl rfl rfl ?_
 refine G.stepGD (OD.move rfl rfl) rfl rfl rfl rfl rfl ?_
 refine G.stepG (OG.call [.agg #[.int .i64 (cr), v2], v4] ent26 rfl rfl rfl rfl (by exact (inversionsOf_w hs10 (Ent.ints (i := 3) rfl) hs12 (Ent.ints (i := 5) rfl) (hl0) (by omega) ((Ent.drop 7 hg)) ((Ent.drop 7 htab))))) rfl rfl rfl rfl rfl ?_
 rintro v23 _ ⟨_, u24, rfl, hs25, hs26, hs27, rfl⟩
 refine G.stepGD (OD.len rfl rfl et39 rfl (Ent.lst (i := 0) rfl)) rfl rfl rfl rfl rfl ?_
 refine G.stepGD (OD.move rfl rfl) rfl rfl rfl rfl rfl ?_
 refine G.stepGD (OD.len rfl rfl et22 rfl (Ent.ints (i := 3) rfl)) rfl rfl rfl rfl rfl ?_
 refine G.stepGD (OD.eqv (OD.neq rfl rfl rfl) (congrArg Value.bool ((by rw [bne_eq_false_iff_eq]; omega) : _ = false))) rfl rfl rfl rfl rfl ?_
 refine G.stepD (OD.pickF rfl rfl rfl) rfl rfl rfl ?_
 refine G.nil (GE.then_ (GC.condF rfl (GC.skip (GE.then_ (GC.seq (GC.seq ?_))))))
 refine GC.at [] 0 (env' := [(3, .pointer (some ⟨g18, 0, none⟩)), (4, v3), (5, v4), (6, v5), (7, v19)]) ⟨rfl, rfl, rfl, rfl, rfl, trivial⟩ rfl ?_
 refine GC.par (its := [⟨59, [], [], [], [], fun _ => .agg #[.int .i64 (cr), v2], fun _ => True, fun _ => []⟩,
     ⟨60, [], [], [], [], fun _ => v4, fun _ => True, fun _ => []⟩,
     ⟨61, [], [], [], [], fun _ => v5, fun _ => True, fun _ => []⟩,
     ⟨62, [(0, 59), (1, 60), (2, 61)], [], [], [3], fun ds => ((ds.getD 0 []).getD 0 undef), fun ds => IsS ((ds.getD 0 []).getD 0 undef), fun ds => [ints 3 ((ds.getD 0 []).getD 0 undef) (actOf cr cd u8 u9)]⟩,
     ⟨63, [], [], [], [], fun _ => .agg #[.int .i64 (cr), v2], fun _ => True, fun _ => []⟩,
     ⟨64, [], [], [], [], fun _ => v19, fun _ => True, fun _ => []⟩,
     ⟨65, [], [], [], [], fun _ => v5, fun _ => True, fun _ => []⟩,
     ⟨66, [(4, 63), (5, 64), (6, 65)], [], [], [7], fun ds => ((ds.getD 0 []).getD 0 undef), fun ds => IsS ((ds.getD 0 []).getD 0 undef), fun ds => [ints 3 ((ds.getD 0 []).getD 0 undef) (actOf cr cd (nwOf cr cd u8) u9)]⟩,
     ⟨67, [(3, 62), (7, 66)], [3, 7], [], [3, 7], fun _ => .bool true, fun _ => True, fun _ => []⟩,
     ⟨68, [(8, 67)], [3, 7], [], [3, 7], fun _ => .bool false, fun _ => True, fun _ => []⟩,
     ⟨69, [(9, 68)], [3, 7], [], [3, 7], fun _ => .bool false, fun _ => True, fun _ => []⟩,
     ⟨70, [(10, 69)], [3, 7], [], [3, 7], fun _ => .agg #[.int .i64 (cr), v2], fun _ => True, fun _ => []⟩,
     ⟨71, [(10, 69)], [3, 7], [], [3, 7], fun _ => v3, fun _ => True, fun _ => []⟩,
     ⟨72, [(10, 69)], [3, 7], [], [3, 7], fun _ => .agg #[.int .i64 (cr), v2], fun _ => True, fun _ => []⟩,
     ⟨73, [(10, 69)], [3, 7], [], [3, 7], fun _ => v4, fun _ => True, fun _ => []⟩,
     ⟨74, [(10, 69)], [3, 7], [], [3, 7], fun _ => v5, fun _ => True, fun _ => []⟩,
     ⟨75, [(10, 69), (13, 72), (14, 73), (15, 74)], [3, 7], [], [3, 7, 16], fun ds => ((ds.getD 2 []).getD 0 undef), fun ds => IsS ((ds.getD 2 []).getD 0 undef), fun ds => [ints 3 ((ds.getD 2 []).getD 0 undef) (actOf cr cd u8 u9)]⟩,
     ⟨76, [(10, 69), (11, 70), (12, 71), (16, 75)], [3, 7, 16], [], [3, 7, 16, 17], fun ds => ((ds.getD 3 []).getD 0 undef), fun ds => IsS ((ds.getD 3 []).getD 0 undef), fun ds => [ints 3 ((ds.getD 3 []).getD 0 undef) (actOf cr cd u7 (actOf cr cd u8 u9))]⟩,
     ⟨77, [(10, 69)], [3, 7], [], [3, 7], fun _ => .agg #[.int .i64 (cr), v2], fun _ => True, fun _ => []⟩,
     ⟨78, [(10, 69)], [3, 7], [], [3, 7, 19], fun ds => ((ds.getD 2 []).getD 0 undef), fun ds => IsS ((ds.getD 2 []).getD 0 undef), fun ds => [ints 3 ((ds.getD 2 []).getD 0 undef) []]⟩,
     ⟨79, [(10, 69)], [3, 7], [], [3, 7], fun _ => v3, fun _ => True, fun _ => []⟩,
     ⟨80, [(10, 69), (19, 78), (20, 79)], [19, 3, 7], [19], [3, 7, 19, 21], fun ds => ((ds.getD 3 []).getD 0 undef), fun ds => IsS ((ds.getD 3 []).getD 0 undef), fun ds => [ints 3 ((ds.getD 3 []).getD 0 undef) ([] ++ u7)]⟩,
     ⟨81, [(10, 69)], [3, 7], [], [3, 7], fun _ => v4, fun _ => True, fun _ => []⟩,
     ⟨82, [(10, 69), (21, 80), (22, 81)], [21, 3, 7], [21], [3, 7, 19, 21, 23], fun ds => ((ds.getD 4 []).getD 0 undef), fun ds => IsS ((ds.getD 4 []).getD 0 undef), fun ds => [ints 3 ((ds.getD 4 []).getD 0 undef) (([] ++ u7) ++ u8)]⟩,
     ⟨83, [(10, 69)], [3, 7], [], [3, 7], fun _ => v5, fun _ => True, fun _ => []⟩,
     ⟨84, [(10, 69), (18, 77), (23, 82), (24, 83)], [3, 7, 23], [], [3, 7, 19, 21, 23, 25], fun ds => ((ds.getD 5 []).getD 0 undef), fun ds => IsS ((ds.getD 5 []).getD 0 undef), fun ds => [ints 3 ((ds.getD 5 []).getD 0 undef) (actOf cr cd (([] ++ u7) ++ u8) u9)]⟩,
     ⟨85, [(10, 69), (17, 76), (25, 84)], [3, 7, 16, 17, 23, 25], [], [3, 7, 16, 17, 19, 21, 23, 25], fun _ => .bool true, fun _ => True, fun _ => []⟩,
     ⟨86, [(10, 69), (26, 85)], [3, 7, 16, 17, 23, 25], [], [3, 7, 16, 17, 19, 21, 23, 25], fun _ => .bool false, fun _ => True, fun _ => []⟩,
     ⟨87, [(10, 69), (27, 86)], [3, 7, 16, 17, 23, 25], [], [3, 7, 16, 17, 19, 21, 23, 25], fun _ => .bool false, fun _ => True, fun _ => []⟩]) (by kernel_rfl) (by kernel_rfl) (POps.cons ?_ (POps.cons ?_ (POps.cons ?_ (POps.cons ?_ (POps.cons ?_ (POps.cons ?_ (POps.cons ?_ (POps.cons ?_ (POps.cons ?_ (POps.cons ?_ (POps.cons ?_ (POps.cons ?_ (POps.cons ?_ (POps.cons ?_ (POps.cons ?_ (POps.cons ?_ (POps.cons ?_ (POps.cons ?_ (POps.cons ?_ (POps.cons ?_ (POps.cons ?_ (POps.cons ?_ (POps.cons ?_ (POps.cons ?_ (POps.cons ?_ (POps.cons ?_ (POps.cons ?_ (POps.cons ?_ (POps.cons ?_ POps.nil))))))))))))))))))))))))))))) ?_
 intro θ R hd
 exact Opp.plain (OG.imp (OD.loadAgg rfl ti27 rfl (i := 4) rfl (us := [.int .i64 (cr), v2]) rfl rfl) (by rintro _ _ ⟨rfl, rfl⟩; exact ⟨[], rfl, trivial, rfl⟩)) rfl
 intro θ R hd
 exact Opp.plain (OG.imp (OD.move rfl rfl) (by rintro _ _ ⟨rfl, rfl⟩; exact ⟨[], rfl, trivial, rfl⟩)) rfl
 intro θ R hd
 exact Opp.plain (OG.imp (OD.move rfl rfl) (by rintro _ _ ⟨rfl, rfl⟩; exact ⟨[], rfl, trivial, rfl⟩)) rfl
 intro θ R hd
 obtain ⟨h0d, h1d, h2d, _⟩ := hd
 exact Opp.plain (OG.imp (OG.call [.agg #[.int .i64 (cr), v2], v4, v5] ent27 rfl rfl rfl rfl (by exact (actWeightT_w hs10 (Ent.ints (i := 5) rfl) hs12 (Ent.ints (i := 7) rfl) hs13 (Ent.ints (i := 8) rfl) (hl0) (by omega) (by omega) ((Ent.drop 9 hg.app))))) (by rintro v28 _ ⟨_, rfl, hs29, rfl⟩; exact ⟨[v28], rfl, hs29, rfl⟩)) rfl
 intro θ R hd
 exact Opp.plain (OG.imp (OD.loadAgg rfl ti27 rfl (i := 4) rfl (us := [.int .i64 (cr), v2]) rfl rfl) (by rintro _ _ ⟨rfl, rfl⟩; exact ⟨[], rfl, trivial, rfl⟩)) rfl
 intro θ R hd
 exact Opp.plain (OG.imp (OD.move rfl rfl) (by rintro _ _ ⟨rfl, rfl⟩; exact ⟨[], rfl, trivial, rfl⟩)) rfl
 intro θ R hd
 exact Opp.plain (OG.imp (OD.move rfl rfl) (by rintro _ _ ⟨rfl, rfl⟩; exact ⟨[], rfl, trivial, rfl⟩)) rfl
 intro θ R hd
 obtain ⟨h4d, h5d, h6d, _⟩ := hd
 exact Opp.plain (OG.imp (OG.call [.agg #[.int .i64 (cr), v2], v19, v5] ent27 rfl rfl rfl rfl (by exact (actWeightT_w hs10 (Ent.ints (i := 5) rfl) hs20 (Ent.ints (i := 3) rfl) hs13 (Ent.ints (i := 8) rfl) (hl0) (by omega) (by omega) ((Ent.drop 9 hg.app))))) (by rintro v30 _ ⟨_, rfl, hs31, rfl⟩; exact ⟨[v30], rfl, hs31, rfl⟩)) rfl
 intro θ R hd
 obtain ⟨h3d, h7d, _⟩ := hd
 exact Opp.plain (OG.imp (OG.imp (K' := fun v ow => v = .bool true ∧ ow = ints 3 ((θ 3).getD 0 undef) (actOf cr cd u8 u9) :: ints 3 ((θ 7).getD 0 undef) (actOf cr cd (nwOf cr cd u8) u9) :: lst 22 v23 u24 :: many (ints 3) u24 (ivL cr cd u8) :: ints 3 v21 (nwOf cr cd (nwOf cr cd u8)) :: ints 3 v19 (nwOf cr cd u8) :: box g18 27 [.int .i64 (cr), v2] :: ints 3 v2 cd :: ints 3 v3 u7 :: ints 3 v4 u8 :: ints 3 v5 u9 :: own ++ R) (OG.call [((θ 3).getD 0 undef), ((θ 7).getD 0 undef)] ent25 rfl rfl rfl rfl (by exact (lawsInts_s h3d (Ent.ints (i := 0) rfl) h7d (Ent.ints (i := 1) rfl) (Nat.le_trans (actOf_len _ _ _ _ ) (by decide))))) (by rintro _ _ ⟨rfl, rfl⟩; exact ⟨congrArg Value.bool (hb3), rfl⟩)) (by rintro _ _ ⟨rfl, rfl⟩; exact ⟨[], rfl, trivial, rfl⟩)) rfl
 intro θ R hd
 obtain ⟨h8d, _⟩ := hd
 exact Opp.plain (OG.imp (OD.not rfl rfl) (by rintro _ _ ⟨rfl, rfl⟩; exact ⟨[], rfl, trivial, rfl⟩)) rfl
 intro θ R hd
 obtain ⟨h9d, _⟩ := hd
 exact Opp.plain (OG.imp (OD.move rfl rfl) (by rintro _ _ ⟨rfl, rfl⟩; exact ⟨[], rfl, trivial, rfl⟩)) rfl
 intro θ R hd
 obtain ⟨h10d, _⟩ := hd
 exact Opp.on (OG.imp (OD.loadAgg rfl ti27 rfl (i := 6) rfl (us := [.int .i64 (cr), v2]) rfl rfl) (by rintro _ _ ⟨rfl, rfl⟩; exact ⟨[], rfl, trivial, rfl⟩)) rfl rfl rfl
 intro θ R hd
 obtain ⟨h10d, _⟩ := hd
 exact Opp.on (OG.imp (OD.move rfl rfl) (by rintro _ _ ⟨rfl, rfl⟩; exact ⟨[], rfl, trivial, rfl⟩)) rfl rfl rfl
 intro θ R hd
 obtain ⟨h10d, _⟩ := hd
 exact Opp.on (OG.imp (OD.loadAgg rfl ti27 rfl (i := 6) rfl (us := [.int .i64 (cr), v2]) rfl rfl) (by rintro _ _ ⟨rfl, rfl⟩; exact ⟨[], rfl, trivial, rfl⟩)) rfl rfl rfl
 intro θ R hd
 obtain ⟨h10d, _⟩ := hd
 exact Opp.on (OG.imp (OD.move rfl rfl) (by rintro _ _ ⟨rfl, rfl⟩; exact ⟨[], rfl, trivial, rfl⟩)) rfl rfl rfl
 intro θ R hd
 obtain ⟨h10d, _⟩ := hd
 exact Opp.on (OG.imp (OD.move rfl rfl) (by rintro _ _ ⟨rfl, rfl⟩; exact ⟨[], rfl, trivial, rfl⟩)) rfl rfl rfl
 intro θ R hd
 obtain ⟨h10d, h13d, h14d, h15d, _⟩ := hd
 exact Opp.on (OG.imp (OG.call [.agg #[.int .i64 (cr), v2], v4, v5] ent27 rfl rfl rfl rfl (by exact (actWeightT_w hs10 (Ent.ints (i := 7) rfl) hs12 (Ent.ints (i := 9) rfl) hs13 (Ent.ints (i := 10) rfl) (hl0) (by omega) (by omega) ((Ent.drop 11 hg.app))))) (by rintro v32 _ ⟨_, rfl, hs33, rfl⟩; exact ⟨[v32], rfl, hs33, rfl⟩)) rfl rfl rfl
 intro θ R hd
 obtain ⟨h10d, h11d, h12d, h16d, _⟩ := hd
 exact Opp.on (OG.imp (OG.call [.agg #[.int .i64 (cr), v2], v3, ((θ 16).getD 0 undef)] ent27 rfl rfl rfl rfl (by exact (actWeightT_w hs10 (Ent.ints (i := 8) rfl) hs11 (Ent.ints (i := 9) rfl) h16d (Ent.ints (i := 2) rfl) (hl0) (by omega) (by omega) ((Ent.drop 12 hg.app))))) (by rintro v34 _ ⟨_, rfl, hs35, rfl⟩; exact ⟨[v34], rfl, hs35, rfl⟩)) rfl rfl rfl
 intro θ R hd
 obtain ⟨h10d, _⟩ := hd
 exact Opp.on (OG.imp (OD.loadAgg rfl ti27 rfl (i := 6) rfl (us := [.int .i64 (cr), v2]) rfl rfl) (by rintro _ _ ⟨rfl, rfl⟩; exact ⟨[], rfl, trivial, rfl⟩)) rfl rfl rfl
 intro θ R hd
 obtain ⟨h10d, _⟩ := hd
 exact Opp.on (OG.imp (OG.buildInts (xs := []) (is := []) rfl et22 rfl rfl rfl rfl rfl) (by rintro v36 _ ⟨hs37, rfl⟩; exact ⟨[v36], rfl, hs37, rfl⟩)) rfl rfl rfl
 intro θ R hd
 obtain ⟨h10d, _⟩ := hd
 exact Opp.on (OG.imp (OD.move rfl rfl) (by rintro _ _ ⟨rfl, rfl⟩; exact ⟨[], rfl, trivial, rfl⟩)) rfl rfl rfl
 intro θ R hd
 obtain ⟨h10d, h19d, h20d, _⟩ := hd
 exact Opp.on (OG.imp (OG.appendInts 0 rfl rfl et22 rfl rfl rfl (Ent.ints (i := 9) rfl) (by first | omega | (simp; omega))) (by rintro v38 _ ⟨hs39, rfl⟩; exact ⟨[v38], rfl, hs39, rfl⟩)) rfl rfl rfl
 intro θ R hd
 obtain ⟨h10d, _⟩ := hd
 exact Opp.on (OG.imp (OD.move rfl rfl) (by rintro _ _ ⟨rfl, rfl⟩; exact ⟨[], rfl, trivial, rfl⟩)) rfl rfl rfl
 intro θ R hd
 obtain ⟨h10d, h21d, h22d, _⟩ := hd
 exact Opp.on (OG.imp (OG.appendInts 0 rfl rfl et22 rfl rfl rfl (Ent.ints (i := 10) rfl) (by first | omega | (simp; omega))) (by rintro v40 _ ⟨hs41, rfl⟩; exact ⟨[v40], rfl, hs41, rfl⟩)) rfl rfl rfl
 intro θ R hd
 obtain ⟨h10d, _⟩ := hd
 exact Opp.on (OG.imp (OD.move rfl rfl) (by rintro _ _ ⟨rfl, rfl⟩; exact ⟨[], rfl, trivial, rfl⟩)) rfl rfl rfl
 intro θ R hd
 obtain ⟨h10d, h18d, h23d, h24d, _⟩ := hd
 exact Opp.on (OG.imp (OG.call [.agg #[.int .i64 (cr), v2], ((θ 23).getD 0 undef), v5] ent27 rfl rfl rfl rfl (by exact (actWeightT_w hs10 (Ent.ints (i := 8) rfl) h23d (Ent.ints (i := 2) rfl) hs13 (Ent.ints (i := 11) rfl) (hl0) (by omega) (by omega) ((Ent.drop 12 hg.app))))) (by rintro v42 _ ⟨_, rfl, hs43, rfl⟩; exact ⟨[v42], rfl, hs43, rfl⟩)) rfl rfl rfl
 intro θ R hd
 obtain ⟨h10d, h17d, h25d, _⟩ := hd
 exact Opp.on (OG.imp (OG.imp (K' := fun v ow => v = .bool true ∧ ow = ints 3 ((θ 3).getD 0 undef) (actOf cr cd u8 u9) :: ints 3 ((θ 7).getD 0 undef) (actOf cr cd (nwOf cr cd u8) u9) :: ints 3 ((θ 16).getD 0 undef) (actOf cr cd u8 u9) :: ints 3 ((θ 17).getD 0 undef) (actOf cr cd u7 (actOf cr cd u8 u9)) :: ints 3 ((θ 23).getD 0 undef) (([] ++ u7) ++ u8) :: ints 3 ((θ 25).getD 0 undef) (actOf cr cd (([] ++ u7) ++ u8) u9) :: lst 22 v23 u24 :: many (ints 3) u24 (ivL cr cd u8) :: ints 3 v21 (nwOf cr cd (nwOf cr cd u8)) :: ints 3 v19 (nwOf cr cd u8) :: box g18 27 [.int .i64 (cr), v2] :: ints 3 v2 cd :: ints 3 v3 u7 :: ints 3 v4 u8 :: ints 3 v5 u9 :: own ++ R) (OG.call [((θ 17).getD 0 undef), ((θ 25).getD 0 undef)] ent25 rfl rfl rfl rfl (by exact (lawsInts_s h17d (Ent.ints (i := 3) rfl) h25d (Ent.ints (i := 5) rfl) (Nat.le_trans (actOf_len _ _ _ _ ) (by decide))))) (by rintro _ _ ⟨rfl, rfl⟩; exact ⟨congrArg Value.bool (hb4), rfl⟩)) (by rintro _ _ ⟨rfl, rfl⟩; exact ⟨[], rfl, trivial, rfl⟩)) rfl rfl rfl
 intro θ R hd
 obtain ⟨h10d, h26d, _⟩ := hd
 exact Opp.on (OG.imp (OD.not rfl rfl) (by rintro _ _ ⟨rfl, rfl⟩; exact ⟨[], rfl, trivial, rfl⟩)) rfl rfl rfl
 intro θ R hd
 obtain ⟨h10d, h27d, _⟩ := hd
 exact Opp.plain (OG.imp (OD.pickF rfl rfl rfl) (by rintro _ _ ⟨rfl, rfl⟩; exact ⟨[], rfl, trivial, rfl⟩)) rfl
 intro θ hall
 obtain ⟨_, _, _, h3a, _, _, _, h7a, _, _, _, _, _, _, _, _, h16a, h17a, _, h19a, _, h21a, _, h23a, _, h25a, _, _, _, _⟩ := hall
 refine G.at [] 0 (env' := [(3, .pointer (some ⟨g18, 0, none⟩)), (4, v3), (5, v4), (6, v5), (7, v19), (87, .bool false)]) ⟨rfl, rfl, rfl, rfl, rfl, rfl, trivial⟩ (own' := ints 3 ((θ 3).getD 0 undef) (actOf cr cd u8 u9) :: ints 3 ((θ 7).getD 0 undef) (actOf cr cd (nwOf cr cd u8) u9) :: ints 3 ((θ 16).getD 0 undef) (actOf cr cd u8 u9) :: ints 3 ((θ 17).getD 0 undef) (actOf cr cd u7 (actOf cr cd u8 u9)) :: ints 3 ((θ 23).getD 0 undef) (([] ++ u7) ++ u8) :: ints 3 ((θ 25).getD 0 undef) (actOf cr cd (([] ++ u7) ++ u8) u9) :: lst 22 v23 u24 :: many (ints 3) u24 (ivL cr cd u8) :: ints 3 v21 (nwOf cr cd (nwOf cr cd u8)) :: ints 3 v19 (nwOf cr cd u8) :: box g18 27 [.int .i64 (cr), v2] :: ints 3 v2 cd :: ints 3 v3 u7 :: ints 3 v4 u8 :: ints 3 v5 u9 :: own) rfl ?_
 have hs44 : IsS ((θ 3).getD 0 undef) := h3a
 clear h3a
 generalize ((θ 3).getD 0 undef) = v45 at *
 have hs46 : IsS ((θ 7).getD 0 undef) := h7a
 clear h7a
 generalize ((θ 7).getD 0 undef) = v47 at *
 have hs48 : IsS ((θ 16).getD 0 undef) := h16a
 clear h16a
 generalize ((θ 16).getD 0 undef) = v49 at *
 have hs50 : IsS ((θ 17).getD 0 undef) := h17a
 clear h17a
 generalize ((θ 17).getD 0 undef) = v51 at *
 have hs52 : IsS ((θ 19).getD 0 undef) := h19a
 clear h19a
 generalize ((θ 19).getD 0 undef) = v53 at *
 have hs54 : IsS ((θ 21).getD 0 undef) := h21a
 clear h21a
 generalize ((θ 21).getD 0 undef) = v55 at *
 have hs56 : IsS ((θ 23).getD 0 undef) := h23a
 clear h23a
 generalize ((θ 23).getD 0 undef) = v57 at *
 have hs58 : IsS ((θ 25).getD 0 undef) := h25a
 clear h25a
 generalize ((θ 25).getD 0 undef) = v59 at *
 show G _ _ _ [] _ _ _ _
 refine G.nil (GE.then_ (GC.condF rfl (GC.skip (GE.then_ (GC.seq (GC.seq ?_))))))
 refine GC.at [] 0 (env' := [(3, .pointer (some ⟨g18, 0, none⟩)), (4, v3), (5, v4), (6, v5), (7, v19)]) ⟨rfl, rfl, rfl, rfl, rfl, trivial⟩ rfl ?_
 refine GC.par (its := [⟨88, [], [], [], [], fun _ => .agg #[.int .i64 (cr), v2], fun _ => True, fun _ => []⟩,
     ⟨89, [], [], [], [], fun _ => v4, fun _ => True, fun _ => []⟩,
     ⟨90, [], [], [], [], fun _ => .agg #[.int .i64 (cr), v2], fun _ => True, fun _ => []⟩,
     ⟨91, [], [], [], [], fun _ => v5, fun _ => True, fun _ => []⟩,
     ⟨92, [(2, 90), (3, 91)], [], [], [4], fun ds => ((ds.getD 0 []).getD 0 undef), fun ds => IsS ((ds.getD 0 []).getD 0 undef), fun ds => [ints 3 ((ds.getD 0 []).getD 0 undef) (wtOf cr cd u9)]⟩,
     ⟨93, [(0, 88), (1, 89), (4, 92)], [4], [], [4, 5], fun ds => ((ds.getD 1 []).getD 0 undef), fun ds => IsS ((ds.getD 1 []).getD 0 undef), fun ds => [ints 3 ((ds.getD 1 []).getD 0 undef) (actOf cr cd u8 (wtOf cr cd u9))]⟩,
     ⟨94, [], [], [], [], fun _ => .agg #[.int .i64 (cr), v2], fun _ => True, fun _ => []⟩,
     ⟨95, [], [], [], [], fun _ => .agg #[.int .i64 (cr), v2], fun _ => True, fun _ => []⟩,
     ⟨96, [], [], [], [], fun _ => v4, fun _ => True, fun _ => []⟩,
     ⟨97, [], [], [], [], fun _ => v5, fun _ => True, fun _ => []⟩,
     ⟨98, [(7, 95), (8, 96), (9, 97)], [], [], [10], fun ds => ((ds.getD 0 []).getD 0 undef), fun ds => IsS ((ds.getD 0 []).getD 0 undef), fun ds => [ints 3 ((ds.getD 0 []).getD 0 undef) (arOf cr cd u8 u9)]⟩,
     ⟨99, [(6, 94), (10, 98)], [10], [], [10, 11], fun ds => ((ds.getD 1 []).getD 0 undef), fun ds => IsS ((ds.getD 1 []).getD 0 undef), fun ds => [ints 3 ((ds.getD 1 []).getD 0 undef) (wtOf cr cd (arOf cr cd u8 u9))]⟩,
     ⟨100, [(5, 93), (11, 99)], [4, 5, 10, 11], [], [4, 5, 10, 11], fun _ => .bool true, fun _ => True, fun _ => []⟩,
     ⟨101, [(12, 100)], [4, 5, 10, 11], [], [4, 5, 10, 11], fun _ => .bool false, fun _ => True, fun _ => []⟩]) (by kernel_rfl) (by kernel_rfl) (POps.cons ?_ (POps.cons ?_ (POps.cons ?_ (POps.cons ?_ (POps.cons ?_ (POps.cons ?_ (POps.cons ?_ (POps.cons ?_ (POps.cons ?_ (POps.cons ?_ (POps.cons ?_ (POps.cons ?_ (POps.cons ?_ (POps.cons ?_ POps.nil)))))))))))))) ?_
 intro θ R hd
 exact Opp.plain (OG.imp (OD.loadAgg rfl ti27 rfl (i := 10) rfl (us := [.int .i64 (cr), v2]) rfl rfl) (by rintro _ _ ⟨rfl, rfl⟩; exact ⟨[], rfl, trivial, rfl⟩)) rfl
 intro θ R hd
 exact Opp.plain (OG.imp (OD.move rfl rfl) (by rintro _ _ ⟨rfl, rfl⟩; exact ⟨[], rfl, trivial, rfl⟩)) rfl
 intro θ R hd
 exact Opp.plain (OG.imp (OD.loadAgg rfl ti27 rfl (i := 10) rfl (us := [.int .i64 (cr), v2]) rfl rfl) (by rintro _ _ ⟨rfl, rfl⟩; exact ⟨[], rfl, trivial, rfl⟩)) rfl
 intro θ R hd
 exact Opp.plain (OG.imp (OD.move rfl rfl) (by rintro _ _ ⟨rfl, rfl⟩; exact ⟨[], rfl, trivial, rfl⟩)) rfl
 intro θ R hd
 obtain ⟨h2d, h3d, _⟩ := hd
 exact Opp.plain (OG.imp (OG.call [.agg #[.int .i64 (cr), v2], v5] ent28 rfl rfl rfl rfl (by exact (weightOfT_w hs10 (Ent.ints (i := 11) rfl) hs13 (Ent.ints (i := 14) rfl) (hl0) (by omega) ((Ent.drop 15 hg.app))))) (by rintro v60 _ ⟨_, rfl, hs61, rfl⟩; exact ⟨[v60], rfl, hs61, rfl⟩)) rfl
 intro θ R hd
 obtain ⟨h0d, h1d, h4d, _⟩ := hd
 exact Opp.plain (OG.imp (OG.call [.agg #[.int .i64 (cr), v2], v4, ((θ 4).getD 0 undef)] ent27 rfl rfl rfl rfl (by exact (actWeightT_w hs10 (Ent.ints (i := 12) rfl) hs12 (Ent.ints (i := 14) rfl) h4d (Ent.ints (i := 0) rfl) (hl0) (by omega) (by omega) ((Ent.drop 16 hg.app))))) (by rintro v62 _ ⟨_, rfl, hs63, rfl⟩; exact ⟨[v62], rfl, hs63, rfl⟩)) rfl
 intro θ R hd
 exact Opp.plain (OG.imp (OD.loadAgg rfl ti27 rfl (i := 10) rfl (us := [.int .i64 (cr), v2]) rfl rfl) (by rintro _ _ ⟨rfl, rfl⟩; exact ⟨[], rfl, trivial, rfl⟩)) rfl
 intro θ R hd
 exact Opp.plain (OG.imp (OD.loadAgg rfl ti27 rfl (i := 10) rfl (us := [.int .i64 (cr), v2]) rfl rfl) (by rintro _ _ ⟨rfl, rfl⟩; exact ⟨[], rfl, trivial, rfl⟩)) rfl
 intro θ R hd
 exact Opp.plain (OG.imp (OD.move rfl rfl) (by rintro _ _ ⟨rfl, rfl⟩; exact ⟨[], rfl, trivial, rfl⟩)) rfl
 intro θ R hd
 exact Opp.plain (OG.imp (OD.move rfl rfl) (by rintro _ _ ⟨rfl, rfl⟩; exact ⟨[], rfl, trivial, rfl⟩)) rfl
 intro θ R hd
 obtain ⟨h7d, h8d, h9d, _⟩ := hd
 exact Opp.plain (OG.imp (OG.call [.agg #[.int .i64 (cr), v2], v4, v5] ent29 rfl rfl rfl rfl (by exact (actRootT_w hs10 (Ent.ints (i := 11) rfl) hs12 (Ent.ints (i := 13) rfl) hs13 (Ent.ints (i := 14) rfl) (hl0) (by omega) (by omega) ((Ent.drop 15 hg.app))))) (by rintro v64 _ ⟨_, rfl, hs65, rfl⟩; exact ⟨[v64], rfl, hs65, rfl⟩)) rfl
 intro θ R hd
 obtain ⟨h6d, h10d, _⟩ := hd
 exact Opp.plain (OG.imp (OG.call [.agg #[.int .i64 (cr), v2], ((θ 10).getD 0 undef)] ent28 rfl rfl rfl rfl (by exact (weightOfT_w hs10 (Ent.ints (i := 12) rfl) h10d (Ent.ints (i := 0) rfl) (hl0) (by omega) ((Ent.drop 16 hg.app))))) (by rintro v66 _ ⟨_, rfl, hs67, rfl⟩; exact ⟨[v66], rfl, hs67, rfl⟩)) rfl
 intro θ R hd
 obtain ⟨h5d, h11d, _⟩ := hd
 exact Opp.plain (OG.imp (OG.imp (K' := fun v ow => v = .bool true ∧ ow = ints 3 ((θ 4).getD 0 undef) (wtOf cr cd u9) :: ints 3 ((θ 5).getD 0 undef) (actOf cr cd u8 (wtOf cr cd u9)) :: ints 3 ((θ 10).getD 0 undef) (arOf cr cd u8 u9) :: ints 3 ((θ 11).getD 0 undef) (wtOf cr cd (arOf cr cd u8 u9)) :: ints 3 v45 (actOf cr cd u8 u9) :: ints 3 v47 (actOf cr cd (nwOf cr cd u8) u9) :: ints 3 v49 (actOf cr cd u8 u9) :: ints 3 v51 (actOf cr cd u7 (actOf cr cd u8 u9)) :: ints 3 v57 (([] ++ u7) ++ u8) :: ints 3 v59 (actOf cr cd (([] ++ u7) ++ u8) u9) :: lst 22 v23 u24 :: many (ints 3) u24 (ivL cr cd u8) :: ints 3 v21 (nwOf cr cd (nwOf cr cd u8)) :: ints 3 v19 (nwOf cr cd u8) :: box g18 27 [.int .i64 (cr), v2] :: ints 3 v2 cd :: ints 3 v3 u7 :: ints 3 v4 u8 :: ints 3 v5 u9 :: own ++ R) (OG.call [((θ 5).getD 0 undef), ((θ 11).getD 0 undef)] ent25 rfl rfl rfl rfl (by exact (lawsInts_s h5d (Ent.ints (i := 1) rfl) h11d (Ent.ints (i := 3) rfl) (Nat.le_trans (actOf_len _ _ _ _ ) (by decide))))) (by rintro _ _ ⟨rfl, rfl⟩; exact ⟨congrArg Value.bool (hb5), rfl⟩)) (by rintro _ _ ⟨rfl, rfl⟩; exact ⟨[], rfl, trivial, rfl⟩)) rfl
 intro θ R hd
 obtain ⟨h12d, _⟩ := hd
 exact Opp.plain (OG.imp (OD.not rfl rfl) (by rintro _ _ ⟨rfl, rfl⟩; exact ⟨[], rfl, trivial, rfl⟩)) rfl
 intro θ hall
 obtain ⟨_, _, _, _, h4a, h5a, _, _, _, _, h10a, h11a, _, _, _⟩ := hall
 refine G.at [] 0 (env' := [(3, .pointer (some ⟨g18, 0, none⟩)), (4, v3), (5, v4), (7, v19), (101, .bool false)]) ⟨rfl, rfl, rfl, rfl, rfl, trivial⟩ (own' := ints 3 ((θ 4).getD 0 undef) (wtOf cr cd u9) :: ints 3 ((θ 5).getD 0 undef) (actOf cr cd u8 (wtOf cr cd u9)) :: ints 3 ((θ 10).getD 0 undef) (arOf cr cd u8 u9) :: ints 3 ((θ 11).getD 0 undef) (wtOf cr cd (arOf cr cd u8 u9)) :: ints 3 v45 (actOf cr cd u8 u9) :: ints 3 v47 (actOf cr cd (nwOf cr cd u8) u9) :: ints 3 v49 (actOf cr cd u8 u9) :: ints 3 v51 (actOf cr cd u7 (actOf cr cd u8 u9)) :: ints 3 v57 (([] ++ u7) ++ u8) :: ints 3 v59 (actOf cr cd (([] ++ u7) ++ u8) u9) :: lst 22 v23 u24 :: many (ints 3) u24 (ivL cr cd u8) :: ints 3 v21 (nwOf cr cd (nwOf cr cd u8)) :: ints 3 v19 (nwOf cr cd u8) :: box g18 27 [.int .i64 (cr), v2] :: ints 3 v2 cd :: ints 3 v3 u7 :: ints 3 v4 u8 :: ints 3 v5 u9 :: own) rfl ?_
 have hs68 : IsS ((θ 4).getD 0 undef) := h4a
 clear h4a
 generalize ((θ 4).getD 0 undef) = v69 at *
 have hs70 : IsS ((θ 5).getD 0 undef) := h5a
 clear h5a
 generalize ((θ 5).getD 0 undef) = v71 at *
 have hs72 : IsS ((θ 10).getD 0 undef) := h10a
 clear h10a
 generalize ((θ 10).getD 0 undef) = v73 at *
 have hs74 : IsS ((θ 11).getD 0 undef) := h11a
 clear h11a
 generalize ((θ 11).getD 0 undef) = v75 at *
 show G _ _ _ [] _ _ _ _
 refine G.nil (GE.then_ (GC.condF rfl (GC.skip (GE.then_ (GC.seq (GC.region ?_))))))
 refine G.stepD (OD.loadAgg rfl ti27 rfl (i := 14) rfl (us := [.int .i64 (cr), v2]) rfl rfl) rfl rfl rfl ?_
 refine G.stepD (OD.move rfl rfl) rfl rfl rfl ?_
 refine G.step (OG.call [.agg #[.int .i64 (cr), v2], v4] ent24 rfl rfl rfl rfl (by exact (inverseWord_w hs10 (Ent.ints (i := 15) rfl) hs12 (Ent.ints (i := 17) rfl) (hl0) (by omega) ((Ent.drop 19 hg))))) rfl rfl rfl ?_
 rintro v76 _ ⟨_, rfl, hs77, rfl⟩
 refine G.stepD (OD.assign rfl rfl) rfl rfl rfl ?_
 refine G.nil (GE.then_ (GC.seq ?_))
 refine GC.at [] 0 (env' := [(3, .pointer (some ⟨g18, 0, none⟩)), (4, v3), (5, v4), (7, v19), (8, v76)]) ⟨rfl, rfl, rfl, rfl, rfl, trivial⟩ rfl ?_
 refine GC.par (its := [⟨105, [], [], [], [], fun _ => v76, fun _ => True, fun _ => []⟩,
     ⟨106, [(0, 105)], [], [], [], fun _ => .int .i64 (((ivOf cr cd u8).length : Nat)), fun _ => True, fun _ => []⟩,
     ⟨107, [], [], [], [], fun _ => v19, fun _ => True, fun _ => []⟩,
     ⟨108, [(2, 107)], [], [], [], fun _ => .int .i64 (((nwOf cr cd u8).length : Nat)), fun _ => True, fun _ => []⟩,
     ⟨109, [(1, 106), (3, 108)], [], [], [], fun _ => .bool true, fun _ => True, fun _ => []⟩,
     ⟨110, [(4, 109)], [], [], [], fun _ => .bool true, fun _ => True, fun _ => []⟩,
     ⟨111, [(5, 110)], [], [], [], fun _ => .agg #[.int .i64 (cr), v2], fun _ => True, fun _ => []⟩,
     ⟨112, [(5, 110)], [], [], [7], fun ds => ((ds.getD 0 []).getD 0 undef), fun ds => IsS ((ds.getD 0 []).getD 0 undef), fun ds => [ints 3 ((ds.getD 0 []).getD 0 undef) []]⟩,
     ⟨113, [(5, 110)], [], [], [], fun _ => v4, fun _ => True, fun _ => []⟩,
     ⟨114, [(5, 110), (7, 112), (8, 113)], [7], [7], [7, 9], fun ds => ((ds.getD 1 []).getD 0 undef), fun ds => IsS ((ds.getD 1 []).getD 0 undef), fun ds => [ints 3 ((ds.getD 1 []).getD 0 undef) ([] ++ u8)]⟩,
     ⟨115, [(5, 110)], [], [], [], fun _ => v76, fun _ => True, fun _ => []⟩,
     ⟨116, [(5, 110), (9, 114), (10, 115)], [9], [9], [7, 9, 11], fun ds => ((ds.getD 2 []).getD 0 undef), fun ds => IsS ((ds.getD 2 []).getD 0 undef), fun ds => [ints 3 ((ds.getD 2 []).getD 0 undef) (([] ++ u8) ++ (ivOf cr cd u8))]⟩,
     ⟨117, [(5, 110), (6, 111), (11, 116)], [11], [], [7, 9, 11, 12], fun ds => ((ds.getD 3 []).getD 0 undef), fun ds => IsS ((ds.getD 3 []).getD 0 undef), fun ds => [ints 3 ((ds.getD 3 []).getD 0 undef) (nwOf cr cd (([] ++ u8) ++ (ivOf cr cd u8)))]⟩,
     ⟨118, [(5, 110), (12, 117)], [11, 12], [], [7, 9, 11, 12], fun _ => .int .i64 (((nwOf cr cd (([] ++ u8) ++ (ivOf cr cd u8))).length : Nat)), fun _ => True, fun _ => []⟩,
     ⟨119, [(5, 110), (13, 118)], [11, 12], [], [7, 9, 11, 12], fun _ => .bool true, fun _ => True, fun _ => []⟩,
     ⟨120, [(5, 110), (14, 119)], [11, 12], [], [7, 9, 11, 12], fun _ => .bool true, fun _ => True, fun _ => []⟩,
     ⟨121, [(15, 120)], [11, 12], [], [7, 9, 11, 12], fun _ => .bool true, fun _ => True, fun _ => []⟩,
     ⟨122, [(16, 121)], [11, 12], [], [7, 9, 11, 12], fun _ => .agg #[.int .i64 (cr), v2], fun _ => True, fun _ => []⟩,
     ⟨123, [(16, 121)], [11, 12], [], [7, 9, 11, 12], fun _ => v3, fun _ => True, fun _ => []⟩,
     ⟨124, [(16, 121)], [11, 12], [], [7, 9, 11, 12], fun _ => v4, fun _ => True, fun _ => []⟩,
     ⟨125, [(16, 121), (17, 122), (18, 123), (19, 124)], [11, 12], [], [7, 9, 11, 12], fun _ => .bool (seB cr cd u7 u8), fun _ => True, fun _ => []⟩,
     ⟨126, [(16, 121)], [11, 12], [], [7, 9, 11, 12], fun _ => .agg #[.int .i64 (cr), v2], fun _ => True, fun _ => []⟩,
     ⟨127, [(16, 121)], [11, 12], [], [7, 9, 11, 12], fun _ => v3, fun _ => True, fun _ => []⟩,
     ⟨128, [(16, 121), (21, 126), (22, 127)], [11, 12], [], [7, 9, 11, 12, 23], fun ds => ((ds.getD 4 []).getD 0 undef), fun ds => IsS ((ds.getD 4 []).getD 0 undef), fun ds => [ints 3 ((ds.getD 4 []).getD 0 undef) (nwOf cr cd u7)]⟩,
     ⟨129, [(16, 121)], [11, 12], [], [7, 9, 11, 12], fun _ => v19, fun _ => True, fun _ => []⟩,
     ⟨130, [(16, 121), (23, 128), (24, 129)], [11, 12, 23], [], [7, 9, 11, 12, 23], fun _ => .bool (samB (nwOf cr cd u7) (nwOf cr cd u8)), fun _ => True, fun _ => []⟩,
     ⟨131, [(16, 121), (20, 125), (25, 130)], [11, 12, 23], [], [7, 9, 11, 12, 23], fun _ => .bool true, fun _ => True, fun _ => []⟩,
     ⟨132, [(16, 121), (26, 131)], [11, 12, 23], [], [7, 9, 11, 12, 23], fun _ => .bool true, fun _ => True, fun _ => []⟩]) (by kernel_rfl) (by kernel_rfl) (POps.cons ?_ (POps.cons ?_ (POps.cons ?_ (POps.cons ?_ (POps.cons ?_ (POps.cons ?_ (POps.cons ?_ (POps.cons ?_ (POps.cons ?_ (POps.cons ?_ (POps.cons ?_ (POps.cons ?_ (POps.cons ?_ (POps.cons ?_ (POps.cons ?_ (POps.cons ?_ (POps.cons ?_ (POps.cons ?_ (POps.cons ?_ (POps.cons ?_ (POps.cons ?_ (POps.cons ?_ (POps.cons ?_ (POps.cons ?_ (POps.cons ?_ (POps.cons ?_ (POps.cons ?_ (POps.cons ?_ POps.nil)))))))))))))))))))))))))))) ?_
 intro θ R hd
 exact Opp.plain (OG.imp (OD.move rfl rfl) (by rintro _ _ ⟨rfl, rfl⟩; exact ⟨[], rfl, trivial, rfl⟩)) rfl
 intro θ R hd
 obtain ⟨h0d, _⟩ := hd
 exact Opp.plain (OG.imp (OD.len rfl rfl et22 rfl (Ent.ints (i := 0) rfl)) (by rintro _ _ ⟨rfl, rfl⟩; exact ⟨[], rfl, trivial, rfl⟩)) rfl
 intro θ R hd
 exact Opp.plain (OG.imp (OD.move rfl rfl) (by rintro _ _ ⟨rfl, rfl⟩; exact ⟨[], rfl, trivial, rfl⟩)) rfl
 intro θ R hd
 obtain ⟨h2d, _⟩ := hd
 exact Opp.plain (OG.imp (OD.len rfl rfl et22 rfl (Ent.ints (i := 14) rfl)) (by rintro _ _ ⟨rfl, rfl⟩; exact ⟨[], rfl, trivial, rfl⟩)) rfl
 intro θ R hd
 obtain ⟨h1d, h3d, _⟩ := hd
 exact Opp.plain (OG.imp (OD.eqv (OD.eql rfl rfl rfl) (congrArg Value.bool ((beq_iff_eq.2 (by omega)) : _ = true))) (by rintro _ _ ⟨rfl, rfl⟩; exact ⟨[], rfl, trivial, rfl⟩)) rfl
 intro θ R hd
 obtain ⟨h4d, _⟩ := hd
 exact Opp.plain (OG.imp (OD.move rfl rfl) (by rintro _ _ ⟨rfl, rfl⟩; exact ⟨[], rfl, trivial, rfl⟩)) rfl
 intro θ R hd
 obtain ⟨h5d, _⟩ := hd
 exact Opp.on (OG.imp (OD.loadAgg rfl ti27 rfl (i := 15) rfl (us := [.int .i64 (cr), v2]) rfl rfl) (by rintro _ _ ⟨rfl, rfl⟩; exact ⟨[], rfl, trivial, rfl⟩)) rfl rfl rfl
 intro θ R hd
 obtain ⟨h5d, _⟩ := hd
 exact Opp.on (OG.imp (OG.buildInts (xs := []) (is := []) rfl et22 rfl rfl rfl rfl rfl) (by rintro v78 _ ⟨hs79, rfl⟩; exact ⟨[v78], rfl, hs79, rfl⟩)) rfl rfl rfl
 intro θ R hd
 obtain ⟨h5d, _⟩ := hd
 exact Opp.on (OG.imp (OD.move rfl rfl) (by rintro _ _ ⟨rfl, rfl⟩; exact ⟨[], rfl, trivial, rfl⟩)) rfl rfl rfl
 intro θ R hd
 obtain ⟨h5d, h7d, h8d, _⟩ := hd
 exact Opp.on (OG.imp (OG.appendInts 0 rfl rfl et22 rfl rfl rfl (Ent.ints (i := 19) rfl) (by first | omega | (simp; omega))) (by rintro v80 _ ⟨hs81, rfl⟩; exact ⟨[v80], rfl, hs81, rfl⟩)) rfl rfl rfl
 intro θ R hd
 obtain ⟨h5d, _⟩ := hd
 exact Opp.on (OG.imp (OD.move rfl rfl) (by rintro _ _ ⟨rfl, rfl⟩; exact ⟨[], rfl, trivial, rfl⟩)) rfl rfl rfl
 intro θ R hd
 obtain ⟨h5d, h9d, h10d, _⟩ := hd
 exact Opp.on (OG.imp (OG.appendInts 0 rfl rfl et22 rfl rfl rfl (Ent.ints (i := 1) rfl) (by first | omega | (simp; omega))) (by rintro v82 _ ⟨hs83, rfl⟩; exact ⟨[v82], rfl, hs83, rfl⟩)) rfl rfl rfl
 intro θ R hd
 obtain ⟨h5d, h6d, h11d, _⟩ := hd
 exact Opp.on (OG.imp (OG.call [.agg #[.int .i64 (cr), v2], ((θ 11).getD 0 undef)] ent21 rfl rfl rfl rfl (by exact (normalWord_w hs10 (Ent.ints (i := 17) rfl) h11d (Ent.ints (i := 0) rfl) (hl0) (by omega) ((Ent.drop 21 hg.app))))) (by rintro v84 _ ⟨_, rfl, hs85, rfl⟩; exact ⟨[v84], rfl, hs85, rfl⟩)) rfl rfl rfl
 intro θ R hd
 obtain ⟨h5d, h12d, _⟩ := hd
 exact Opp.on (OG.imp (OD.len rfl rfl et22 rfl (Ent.ints (i := 1) rfl)) (by rintro _ _ ⟨rfl, rfl⟩; exact ⟨[], rfl, trivial, rfl⟩)) rfl rfl rfl
 intro θ R hd
 obtain ⟨h5d, h13d, _⟩ := hd
 exact Opp.on (OG.imp (OD.eqv (OD.eql rfl rfl rfl) (congrArg Value.bool ((beq_iff_eq.2 (by omega)) : _ = true))) (by rintro _ _ ⟨rfl, rfl⟩; exact ⟨[], rfl, trivial, rfl⟩)) rfl rfl rfl
 intro θ R hd
 obtain ⟨h5d, h14d, _⟩ := hd
 exact Opp.plain (OG.imp (OD.pickT rfl rfl rfl) (by rintro _ _ ⟨rfl, rfl⟩; exact ⟨[], rfl, trivial, rfl⟩)) rfl
 intro θ R hd
 obtain ⟨h15d, _⟩ := hd
 exact Opp.plain (OG.imp (OD.move rfl rfl) (by rintro _ _ ⟨rfl, rfl⟩; exact ⟨[], rfl, trivial, rfl⟩)) rfl
 intro θ R hd
 obtain ⟨h16d, _⟩ := hd
 exact Opp.on (OG.imp (OD.loadAgg rfl ti27 rfl (i := 17) rfl (us := [.int .i64 (cr), v2]) rfl rfl) (by rintro _ _ ⟨rfl, rfl⟩; exact ⟨[], rfl, trivial, rfl⟩)) rfl rfl rfl
 intro θ R hd
 obtain ⟨h16d, _⟩ := hd
 exact Opp.on (OG.imp (OD.move rfl rfl) (by rintro _ _ ⟨rfl, rfl⟩; exact ⟨[], rfl, trivial, rfl⟩)) rfl rfl rfl
 intro θ R hd
 obtain ⟨h16d, _⟩ := hd
 exact Opp.on (OG.imp (OD.move rfl rfl) (by rintro _ _ ⟨rfl, rfl⟩; exact ⟨[], rfl, trivial, rfl⟩)) rfl rfl rfl
 intro θ R hd
 obtain ⟨h16d, h17d, h18d, h19d, _⟩ := hd
 exact Opp.on (OG.imp (OG.call [.agg #[.int .i64 (cr), v2], v3, v4] ent23 rfl rfl rfl rfl (by exact (sameElement_w hs10 (Ent.ints (i := 18) rfl) hs11 (Ent.ints (i := 19) rfl) hs12 (Ent.ints (i := 20) rfl) (hl0) (by omega) (by omega) ((Ent.drop 22 hg.app))))) (by rintro _ _ ⟨rfl, rfl⟩; exact ⟨[], rfl, trivial, rfl⟩)) rfl rfl rfl
 intro θ R hd
 obtain ⟨h16d, _⟩ := hd
 exact Opp.on (OG.imp (OD.loadAgg rfl ti27 rfl (i := 17) rfl (us := [.int .i64 (cr), v2]) rfl rfl) (by rintro _ _ ⟨rfl, rfl⟩; exact ⟨[], rfl, trivial, rfl⟩)) rfl rfl rfl
 intro θ R hd
 obtain ⟨h16d, _⟩ := hd
 exact Opp.on (OG.imp (OD.move rfl rfl) (by rintro _ _ ⟨rfl, rfl⟩; exact ⟨[], rfl, trivial, rfl⟩)) rfl rfl rfl
 intro θ R hd
 obtain ⟨h16d, h21d, h22d, _⟩ := hd
 exact Opp.on (OG.imp (OG.call [.agg #[.int .i64 (cr), v2], v3] ent21 rfl rfl rfl rfl (by exact (normalWord_w hs10 (Ent.ints (i := 18) rfl) hs11 (Ent.ints (i := 19) rfl) (hl0) (by omega) ((Ent.drop 22 hg.app))))) (by rintro v86 _ ⟨_, rfl, hs87, rfl⟩; exact ⟨[v86], rfl, hs87, rfl⟩)) rfl rfl rfl
 intro θ R hd
 obtain ⟨h16d, _⟩ := hd
 exact Opp.on (OG.imp (OD.move rfl rfl) (by rintro _ _ ⟨rfl, rfl⟩; exact ⟨[], rfl, trivial, rfl⟩)) rfl rfl rfl
 intro θ R hd
 obtain ⟨h16d, h23d, h24d, _⟩ := hd
 exact Opp.on (OG.imp (OG.call [((θ 23).getD 0 undef), v19] ent25 rfl rfl rfl rfl (by exact (lawsInts_s h23d (Ent.ints (i := 2) rfl) hs20 (Ent.ints (i := 17) rfl) (Nat.le_trans (nwOf_len _ _ _ ) (by decide))))) (by rintro _ _ ⟨rfl, rfl⟩; exact ⟨[], rfl, trivial, rfl⟩)) rfl rfl rfl
 intro θ R hd
 obtain ⟨h16d, h20d, h25d, _⟩ := hd
 exact Opp.on (OG.imp (OD.eqv (OD.eqlB bt4 rfl rfl rfl) (congrArg Value.bool ((by rw [hL.iff]; exact beqB_same _) : _ = true))) (by rintro _ _ ⟨rfl, rfl⟩; exact ⟨[], rfl, trivial, rfl⟩)) rfl rfl rfl
 intro θ R hd
 obtain ⟨h16d, h26d, _⟩ := hd
 exact Opp.plain (OG.imp (OD.pickT rfl rfl rfl) (by rintro _ _ ⟨rfl, rfl⟩; exact ⟨[], rfl, trivial, rfl⟩)) rfl
 intro θ hall
 obtain ⟨_, _, _, _, _, _, _, h7a, _, h9a, _, h11a, h12a, _, _, _, _, _, _, _, _, _, _, h23a, _, _, _, _, _⟩ := hall
 refine G.at [] 0 (env' := [(132, .bool true)]) ⟨rfl, trivial⟩ (own' := ints 3 ((θ 11).getD 0 undef) (([] ++ u8) ++ (ivOf cr cd u8)) :: ints 3 ((θ 12).getD 0 undef) (nwOf cr cd (([] ++ u8) ++ (ivOf cr cd u8))) :: ints 3 ((θ 23).getD 0 undef) (nwOf cr cd u7) :: ints 3 v76 (ivOf cr cd u8) :: ints 3 v69 (wtOf cr cd u9) :: ints 3 v71 (actOf cr cd u8 (wtOf cr cd u9)) :: ints 3 v73 (arOf cr cd u8 u9) :: ints 3 v75 (wtOf cr cd (arOf cr cd u8 u9)) :: ints 3 v45 (actOf cr cd u8 u9) :: ints 3 v47 (actOf cr cd (nwOf cr cd u8) u9) :: ints 3 v49 (actOf cr cd u8 u9) :: ints 3 v51 (actOf cr cd u7 (actOf cr cd u8 u9)) :: ints 3 v57 (([] ++ u7) ++ u8) :: ints 3 v59 (actOf cr cd (([] ++ u7) ++ u8) u9) :: lst 22 v23 u24 :: many (ints 3) u24 (ivL cr cd u8) :: ints 3 v21 (nwOf cr cd (nwOf cr cd u8)) :: ints 3 v19 (nwOf cr cd u8) :: box g18 27 [.int .i64 (cr), v2] :: ints 3 v2 cd :: ints 3 v3 u7 :: ints 3 v4 u8 :: ints 3 v5 u9 :: own) rfl ?_
 have hs88 : IsS ((θ 7).getD 0 undef) := h7a
 clear h7a
 generalize ((θ 7).getD 0 undef) = v89 at *
 have hs90 : IsS ((θ 9).getD 0 undef) := h9a
 clear h9a
 generalize ((θ 9).getD 0 undef) = v91 at *
 have hs92 : IsS ((θ 11).getD 0 undef) := h11a
 clear h11a
 generalize ((θ 11).getD 0 undef) = v93 at *
 have hs94 : IsS ((θ 12).getD 0 undef) := h12a
 clear h12a
 generalize ((θ 12).getD 0 undef) = v95 at *
 have hs96 : IsS ((θ 23).getD 0 undef) := h23a
 clear h23a
 generalize ((θ 23).getD 0 undef) = v97 at *
 show G _ _ _ [_] _ _ _ _
 refine G.stepD (OD.assign rfl rfl) rfl rfl rfl ?_
 refine G.nil (GE.then_ (GC.ret ?_))
 exact GE.body [] 23 (res1 rfl rfl) rfl (⟨rfl, rfl⟩)
end Go.Proofs.YtgelkakjmbiibaaGreatDoor
