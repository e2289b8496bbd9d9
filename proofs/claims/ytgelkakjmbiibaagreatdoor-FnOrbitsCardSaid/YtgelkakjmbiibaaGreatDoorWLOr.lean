/-
  The law on orbits.
-/
import Derived.Test.YtgelkakjmbiibaaGreatDoorFct
import Derived.Test.YtgelkakjmbiibaaGreatDoorWWds
import Derived.Test.YtgelkakjmbiibaaGreatDoorWOrT
import Derived.Test.YtgelkakjmbiibaaGreatDoorZ19
import Derived.Test.YtgelkakjmbiibaaGreatDoorWDom
import Derived.Test.YtgelkakjmbiibaaGreatDoorWAcT
import Derived.Test.YtgelkakjmbiibaaGreatDoorZ22
import Derived.Test.YtgelkakjmbiibaaGreatDoorZ21
namespace Go.Proofs.YtgelkakjmbiibaaGreatDoor
set_option linter.unusedVariables false
set_option linter.unusedSimpArgs false
open Go.RowKit
theorem ent19 : ∀ us w, (callFunc 19 us).run Tryz.prog w = .ok (.enter 19 us) w := fun us w => by kernel_rfl
theorem ent20 : ∀ us w, (callFunc 20 us).run Tryz.prog w = .ok (.enter 20 us) w := fun us w => by kernel_rfl
theorem ent25 : ∀ us w, (callFunc 25 us).run Tryz.prog w = .ok (.enter 25 us) w := fun us w => by kernel_rfl
theorem ent27 : ∀ us w, (callFunc 27 us).run Tryz.prog w = .ok (.enter 27 us) w := fun us w => by kernel_rfl
theorem ent31 : ∀ us w, (callFunc 31 us).run Tryz.prog w = .ok (.enter 31 us) w := fun us w => by kernel_rfl
theorem ent32 : ∀ us w, (callFunc 32 us).run Tryz.prog w = .ok (.enter 32 us) w := fun us w => by kernel_rfl
theorem bt4 : BT Tryz.prog 4 := ⟨fun a b w => by cases a <;> cases b <;> kernel_rfl, fun a b w => by cases a <;> cases b <;> kernel_rfl⟩
set_option maxHeartbeats 4000000 in
set_option maxRecDepth 100000 in
theorem lawOrbits {W : World} {own : List Asn} {vcode : Value} {code : List Int}  (scode : IsS vcode) (ecode : Ent own fun w => Byts w vcode code)  (hl : code.length ≤ 9223372036854775807) (hg : Ent own fun w => ∃ m, w.cell? ⟨Tryz.l146_ren.g 1, 0, none⟩ = some (.int .i64 m)) (htab : Ent own Pow10) : Spec Tryz.prog 6 [vcode] W own (fun v ow => v = .bool (true) ∧ ow = own) := by
 refine Spec.enter Tryz.f6 _ Tryz.func6 rfl (n := 114) rfl rfl ?_
 refine GC.seq (GC.region ?_)
 refine G.stepD (OD.assign rfl rfl) rfl rfl rfl ?_
 refine G.nil (GE.then_ (GC.seq (GC.seq (GC.region ?_))))
 refine G.stepD (OD.move rfl rfl) rfl rfl rfl ?_
 refine G.step (OG.call [vcode] ent19 rfl rfl rfl rfl (by exact (big_w scode ecode (by omega)))) rfl rfl rfl ?_
 rintro _ _ ⟨rfl, hzz⟩; obtain rfl := hzz.symm
 refine G.nil (GE.then_ ?_)
 refine GC.cond rfl (fun hc1 => ?_) (fun hc1 => ?_)
 replace hc1 := of_decide_eq_true hc1
 refine GC.seq (GC.region ?_)
 refine G.stepD (OD.assign rfl rfl) rfl rfl rfl ?_
 refine G.nil (GE.then_ (GC.ret (GE.passR ?_)))
 exact GE.body [] 0 (res1 rfl rfl) rfl (⟨rfl, rfl⟩)
 replace hc1 := of_decide_eq_false hc1
 refine GC.skip (GE.then_ (GC.seq (GC.region ?_)))
 refine G.stepD (OD.move rfl rfl) rfl rfl rfl ?_
 refine G.step (OG.call [vcode] ent20 rfl rfl rfl rfl (by exact (drawWords_w scode ecode (by omega)))) rfl rfl rfl ?_
 rintro _ _ ⟨v2, v3, v4, v5, g6, u7, u8, u9, rfl, hs10, hs11, hs12, hs13, hs14, hs15, hs16, hs17, rfl⟩
 refine G.stepD (OD.move rfl rfl) rfl rfl rfl ?_
 refine G.stepD (OD.extract rfl rfl rfl) rfl rfl rfl ?_
 refine G.stepD (OD.extract rfl rfl rfl) rfl rfl rfl ?_
 refine G.stepD (OD.extract rfl rfl rfl) rfl rfl rfl ?_
 refine G.stepD (OD.extract rfl rfl rfl) rfl rfl rfl ?_
 refine G.step (OG.alloc rfl ti27 (zs := [.int .i64 (0), .slice none 0 0]) rfl) rfl rfl rfl ?_
 rintro _ _ ⟨g18, rfl, rfl⟩
 refine G.stepD0 (OD.store rfl ti27 rfl rfl (us := [.int .i64 (cR (smNm g6)), v2]) rfl rfl (allC rfl (allC (IsS.one hs10) rfl)) (i := 0) rfl rfl) rfl rfl ?_
 refine G.stepD (OD.assign rfl rfl) rfl rfl rfl ?_
 refine G.stepD (OD.assign rfl rfl) rfl rfl rfl ?_
 refine G.stepD (OD.assign rfl rfl) rfl rfl rfl ?_
 refine G.nil (GE.then_ (GC.seq ?_))
 obtain ⟨hS, hg0, hgt⟩ := grOk (k := g6) (by assumption)
 obtain ⟨hR, hD, hN1, hN3⟩ := sm_cR (k := g6) (by assumption)
 rw [← hR, ← hD] at hS hg0 hgt
 generalize hce : cR (smNm g6) = cr at *
 generalize hde : cD (smNm g6) = cd at *
 have hcr4 := (tyS_ok hS).1
 have hl0 : cd.length ≤ 1073741824 := Nat.le_trans (cd_small hS) (by decide)
 have hW := wlOk hS
 have hph := phOk hS
 obtain ⟨hsw, hz4⟩ := sm_of (show u9.length = (cr : Int).toNat ∧ ∀ q ∈ u9, -4 ≤ q ∧ q ≤ 4 from by assumption)
 obtain ⟨hvl, hrv⟩ := (show u8.length ≤ 11 ∧ ∀ q ∈ u8, 0 ≤ q ∧ q < cr from by assumption)
 obtain ⟨oE, oL, o1, oI, oM⟩ := hg0.orYes hW hph hS hsw
 obtain ⟨mE, m0, mX⟩ := hg0.orMul hW hph hS hsw
 obtain ⟨dE, dA, aM, aL, aW, aD, xD⟩ := hg0.orLaw hW hph hS hsw (v := u8) hrv (by omega)
 rw [← dE] at dA aD xD
 have hzl := hsw.len
 have hol := orOf_len cr cd u9
 have hwo : 0 ≤ woF cr cd ∧ woF cr cd ≤ 1204 := wo_bd hS
 have hA : samB (actOf cr cd (dmOf cr cd u9).2 u9) (dmOf cr cd u9).1 = true := samB_of dA
 have hoe : ∀ q ∈ (orOf cr cd u9), q.length = cr.toNat := fun q hq => (xD q hq).1
 have hdl : (dmOf cr cd u9).1.length ≤ 4 ∧ (dmOf cr cd u9).2.length ≤ 800002 := dmOf_len cr cd u9
 have h64z : All64 u9 := z64 hz4 hzl
 refine GC.region ?_
 refine G.stepD (OD.loadAgg rfl ti27 rfl (i := 0) rfl (us := [.int .i64 (cr), v2]) rfl rfl) rfl rfl rfl ?_
 refine G.stepD (OD.move rfl rfl) rfl rfl rfl ?_
 refine G.step (OG.call [.agg #[.int .i64 (cr), v2], v5] ent30 rfl rfl rfl rfl (by exact (orbitOf_w hs10 (Ent.ints (i := 1) rfl) hs13 (Ent.ints (i := 4) rfl) (hl0) (by omega) (h64z) ((Ent.drop 5 hg)) ((Ent.drop 5 htab))))) rfl rfl rfl ?_
 rintro v19 _ ⟨_, u20, rfl, hs21, hs22, hs23, rfl⟩
 have hul : u20.length = (orOf cr cd u9).length := by assumption
 have hmul : ((u20.length : Nat) : Int) * soF cr cd u9 = woF cr cd := by rw [hul]; exact mE
 skip
 refine G.stepD (OD.assign rfl rfl) rfl rfl rfl ?_
 refine G.nil (GE.then_ (GC.seq (GC.region ?_)))
 refine G.stepD (OD.loadAgg rfl ti27 rfl (i := 2) rfl (us := [.int .i64 (cr), v2]) rfl rfl) rfl rfl rfl ?_
 refine G.stepD (OD.move rfl rfl) rfl rfl rfl ?_
 refine G.step (OG.call [.agg #[.int .i64 (cr), v2], v5] ent31 rfl rfl rfl rfl (by exact (dominantOf_w hs10 (Ent.ints (i := 3) rfl) hs13 (Ent.ints (i := 6) rfl) (hl0) (by omega) ((Ent.drop 7 hg))))) rfl rfl rfl ?_
 rintro _ _ ⟨v24, v26, rfl, hs25, hs27, rfl⟩
 refine G.stepD (OD.move rfl rfl) rfl rfl rfl ?_
 refine G.stepD (OD.extract rfl rfl rfl) rfl rfl rfl ?_
 refine G.stepD (OD.extract rfl rfl rfl) rfl rfl rfl ?_
 refine G.stepD (OD.assign rfl rfl) rfl rfl rfl ?_
 refine G.stepD (OD.assign rfl rfl) rfl rfl rfl ?_
 refine G.nil (GE.then_ (GC.seq (GC.seq ?_)))
 refine GC.at [] 0 (env' := [(3, .pointer (some ⟨g18, 0, none⟩)), (5, v4), (6, v5), (7, v19), (8, v24), (9, v26)]) ⟨rfl, rfl, rfl, rfl, rfl, rfl, trivial⟩ rfl ?_
 refine GC.par (its := [⟨35, [], [], [], [], fun _ => v19, fun _ => True, fun _ => []⟩,
     ⟨36, [(0, 35)], [], [], [], fun _ => .int .i64 ((u20.length : Nat)), fun _ => True, fun _ => []⟩,
     ⟨37, [(1, 36)], [], [], [], fun _ => .bool false, fun _ => True, fun _ => []⟩,
     ⟨38, [(2, 37)], [], [], [], fun _ => .bool false, fun _ => True, fun _ => []⟩,
     ⟨39, [(3, 38)], [], [], [], fun _ => v19, fun _ => True, fun _ => []⟩,
     ⟨40, [(3, 38), (4, 39)], [], [], [], fun _ => .int .i64 ((u20.length : Nat)), fun _ => True, fun _ => []⟩,
     ⟨41, [(3, 38)], [], [], [], fun _ => .agg #[.int .i64 (cr), v2], fun _ => True, fun _ => []⟩,
     ⟨42, [(3, 38)], [], [], [], fun _ => v5, fun _ => True, fun _ => []⟩,
     ⟨43, [(3, 38), (6, 41), (7, 42)], [], [], [], fun _ => .int .i64 (soF cr cd u9), fun _ => True, fun _ => []⟩,
     ⟨44, [(3, 38), (5, 40), (8, 43)], [], [], [], fun _ => .int .i64 ((u20.length : Nat) * (soF cr cd u9)), fun _ => True, fun _ => []⟩,
     ⟨45, [(3, 38)], [], [], [], fun _ => .agg #[.int .i64 (cr), v2], fun _ => True, fun _ => []⟩,
     ⟨46, [(3, 38), (10, 45)], [], [], [], fun _ => .int .i64 (woF cr cd), fun _ => True, fun _ => []⟩,
     ⟨47, [(3, 38), (9, 44), (11, 46)], [], [], [], fun _ => .bool false, fun _ => True, fun _ => []⟩,
     ⟨48, [(3, 38), (12, 47)], [], [], [], fun _ => .bool false, fun _ => True, fun _ => []⟩,
     ⟨49, [(13, 48)], [], [], [], fun _ => .bool false, fun _ => True, fun _ => []⟩,
     ⟨50, [(14, 49)], [], [], [], fun _ => .agg #[.int .i64 (cr), v2], fun _ => True, fun _ => []⟩,
     ⟨51, [(14, 49)], [], [], [], fun _ => v26, fun _ => True, fun _ => []⟩,
     ⟨52, [(14, 49)], [], [], [], fun _ => v5, fun _ => True, fun _ => []⟩,
     ⟨53, [(14, 49), (15, 50), (16, 51), (17, 52)], [], [], [18], fun ds => ((ds.getD 0 []).getD 0 undef), fun ds => IsS ((ds.getD 0 []).getD 0 undef), fun ds => [ints 3 ((ds.getD 0 []).getD 0 undef) (actOf cr cd ((dmOf cr cd u9).2) u9)]⟩,
     ⟨54, [(14, 49)], [], [], [], fun _ => v24, fun _ => True, fun _ => []⟩,
     ⟨55, [(14, 49), (18, 53), (19, 54)], [18], [], [18], fun _ => .bool (samB (actOf cr cd ((dmOf cr cd u9).2) u9) ((dmOf cr cd u9).1)), fun _ => True, fun _ => []⟩,
     ⟨56, [(14, 49), (20, 55)], [18], [], [18], fun _ => .bool (!(samB (actOf cr cd ((dmOf cr cd u9).2) u9) ((dmOf cr cd u9).1))), fun _ => True, fun _ => []⟩,
     ⟨57, [(14, 49), (21, 56)], [18], [], [18], fun _ => .bool (!(samB (actOf cr cd ((dmOf cr cd u9).2) u9) ((dmOf cr cd u9).1))), fun _ => True, fun _ => []⟩]) (by kernel_rfl) (by kernel_rfl) (POps.cons ?_ (POps.cons ?_ (POps.cons ?_ (POps.cons ?_ (POps.cons ?_ (POps.cons ?_ (POps.cons ?_ (POps.cons ?_ (POps.cons ?_ (POps.cons ?_ (POps.cons ?_ (POps.cons ?_ (POps.cons ?_ (POps.cons ?_ (POps.cons ?_ (POps.cons ?_ (POps.cons ?_ (POps.cons ?_ (POps.cons ?_ (POps.cons ?_ (POps.cons ?_ (POps.cons ?_ (POps.cons ?_ POps.nil))))))))))))))))))))))) ?_
 intro θ R hd
 exact Opp.plain (OG.imp (OD.move rfl rfl) (by rintro _ _ ⟨rfl, rfl⟩; exact ⟨[], rfl, trivial, rfl⟩)) rfl
 intro θ R hd
 obtain ⟨h0d, _⟩ := hd
 exact Opp.plain (OG.imp (OD.len rfl rfl et39 rfl (Ent.lst (i := 2) rfl)) (by rintro _ _ ⟨rfl, rfl⟩; exact ⟨[], rfl, trivial, rfl⟩)) rfl
 intro θ R hd
 obtain ⟨h1d, _⟩ := hd
 exact Opp.plain (OG.imp (OD.eqv (OD.eql rfl rfl rfl) (congrArg Value.bool ((by rw [beq_eq_false_iff_ne]; omega) : _ = false))) (by rintro _ _ ⟨rfl, rfl⟩; exact ⟨[], rfl, trivial, rfl⟩)) rfl
 intro θ R hd
 obtain ⟨h2d, _⟩ := hd
 exact Opp.plain (OG.imp (OD.move rfl rfl) (by rintro _ _ ⟨rfl, rfl⟩; exact ⟨[], rfl, trivial, rfl⟩)) rfl
 intro θ R hd
 obtain ⟨h3d, _⟩ := hd
 exact Opp.on (OG.imp (OD.move rfl rfl) (by rintro _ _ ⟨rfl, rfl⟩; exact ⟨[], rfl, trivial, rfl⟩)) rfl rfl rfl
 intro θ R hd
 obtain ⟨h3d, h4d, _⟩ := hd
 exact Opp.on (OG.imp (OD.len rfl rfl et39 rfl (Ent.lst (i := 2) rfl)) (by rintro _ _ ⟨rfl, rfl⟩; exact ⟨[], rfl, trivial, rfl⟩)) rfl rfl rfl
 intro θ R hd
 obtain ⟨h3d, _⟩ := hd
 exact Opp.on (OG.imp (OD.loadAgg rfl ti27 rfl (i := 4) rfl (us := [.int .i64 (cr), v2]) rfl rfl) (by rintro _ _ ⟨rfl, rfl⟩; exact ⟨[], rfl, trivial, rfl⟩)) rfl rfl rfl
 intro θ R hd
 obtain ⟨h3d, _⟩ := hd
 exact Opp.on (OG.imp (OD.move rfl rfl) (by rintro _ _ ⟨rfl, rfl⟩; exact ⟨[], rfl, trivial, rfl⟩)) rfl rfl rfl
 intro θ R hd
 obtain ⟨h3d, h6d, h7d, _⟩ := hd
 exact Opp.on (OG.imp (OG.call [.agg #[.int .i64 (cr), v2], v5] ent32 rfl rfl rfl rfl (by exact (stab_w hs10 (Ent.ints (i := 5) rfl) hs13 (Ent.ints (i := 8) rfl) (hl0) (by omega) (h64z) ((Ent.drop 9 hg.app)) ((Ent.drop 9 htab.app))))) (by rintro _ _ ⟨rfl, rfl⟩; exact ⟨[], rfl, trivial, rfl⟩)) rfl rfl rfl
 intro θ R hd
 obtain ⟨h3d, h5d, h8d, _⟩ := hd
 exact Opp.on (OG.imp (OD.mulI rfl rfl rfl (by rw [hmul]; omega)) (by rintro _ _ ⟨rfl, rfl⟩; exact ⟨[], rfl, trivial, rfl⟩)) rfl rfl rfl
 intro θ R hd
 obtain ⟨h3d, _⟩ := hd
 exact Opp.on (OG.imp (OD.loadAgg rfl ti27 rfl (i := 4) rfl (us := [.int .i64 (cr), v2]) rfl rfl) (by rintro _ _ ⟨rfl, rfl⟩; exact ⟨[], rfl, trivial, rfl⟩)) rfl rfl rfl
 intro θ R hd
 obtain ⟨h3d, h10d, _⟩ := hd
 exact Opp.on (OG.imp (OG.call [.agg #[.int .i64 (cr), v2]] ent33 rfl rfl rfl rfl (by exact (weylOrder_w hs10 (Ent.ints (i := 5) rfl) (hl0) ((Ent.drop 9 hg.app)) ((Ent.drop 9 htab.app))))) (by rintro _ _ ⟨rfl, rfl⟩; exact ⟨[], rfl, trivial, rfl⟩)) rfl rfl rfl
 intro θ R hd
 obtain ⟨h3d, h9d, h11d, _⟩ := hd
 exact Opp.on (OG.imp (OD.eqv (OD.neq rfl rfl rfl) (congrArg Value.bool ((by rw [bne_eq_false_iff_eq]; exact hmul) : _ = false))) (by rintro _ _ ⟨rfl, rfl⟩; exact ⟨[], rfl, trivial, rfl⟩)) rfl rfl rfl
 intro θ R hd
 obtain ⟨h3d, h12d, _⟩ := hd
 exact Opp.plain (OG.imp (OD.pickF rfl rfl rfl) (by rintro _ _ ⟨rfl, rfl⟩; exact ⟨[], rfl, trivial, rfl⟩)) rfl
 intro θ R hd
 obtain ⟨h13d, _⟩ := hd
 exact Opp.plain (OG.imp (OD.move rfl rfl) (by rintro _ _ ⟨rfl, rfl⟩; exact ⟨[], rfl, trivial, rfl⟩)) rfl
 intro θ R hd
 obtain ⟨h14d, _⟩ := hd
 exact Opp.on (OG.imp (OD.loadAgg rfl ti27 rfl (i := 4) rfl (us := [.int .i64 (cr), v2]) rfl rfl) (by rintro _ _ ⟨rfl, rfl⟩; exact ⟨[], rfl, trivial, rfl⟩)) rfl rfl rfl
 intro θ R hd
 obtain ⟨h14d, _⟩ := hd
 exact Opp.on (OG.imp (OD.move rfl rfl) (by rintro _ _ ⟨rfl, rfl⟩; exact ⟨[], rfl, trivial, rfl⟩)) rfl rfl rfl
 intro θ R hd
 obtain ⟨h14d, _⟩ := hd
 exact Opp.on (OG.imp (OD.move rfl rfl) (by rintro _ _ ⟨rfl, rfl⟩; exact ⟨[], rfl, trivial, rfl⟩)) rfl rfl rfl
 intro θ R hd
 obtain ⟨h14d, h15d, h16d, h17d, _⟩ := hd
 exact Opp.on (OG.imp (OG.call [.agg #[.int .i64 (cr), v2], v26, v5] ent27 rfl rfl rfl rfl (by exact (actWeightT_w hs10 (Ent.ints (i := 5) rfl) hs27 (Ent.ints (i := 1) rfl) hs13 (Ent.ints (i := 8) rfl) (hl0) (by omega) (by omega) ((Ent.drop 9 hg.app))))) (by rintro v28 _ ⟨_, rfl, hs29, rfl⟩; exact ⟨[v28], rfl, hs29, rfl⟩)) rfl rfl rfl
 intro θ R hd
 obtain ⟨h14d, _⟩ := hd
 exact Opp.on (OG.imp (OD.move rfl rfl) (by rintro _ _ ⟨rfl, rfl⟩; exact ⟨[], rfl, trivial, rfl⟩)) rfl rfl rfl
 intro θ R hd
 obtain ⟨h14d, h18d, h19d, _⟩ := hd
 exact Opp.on (OG.imp (OG.call [((θ 18).getD 0 undef), v24] ent25 rfl rfl rfl rfl (by exact (lawsInts_s h18d (Ent.ints (i := 0) rfl) hs25 (Ent.ints (i := 1) rfl) (Nat.le_trans (actOf_len _ _ _ _ ) (by decide))))) (by rintro _ _ ⟨rfl, rfl⟩; exact ⟨[], rfl, trivial, rfl⟩)) rfl rfl rfl
 intro θ R hd
 obtain ⟨h14d, h20d, _⟩ := hd
 exact Opp.on (OG.imp (OD.not rfl rfl) (by rintro _ _ ⟨rfl, rfl⟩; exact ⟨[], rfl, trivial, rfl⟩)) rfl rfl rfl
 intro θ R hd
 obtain ⟨h14d, h21d, _⟩ := hd
 exact Opp.plain (OG.imp (OD.pickF rfl rfl rfl) (by rintro _ _ ⟨rfl, rfl⟩; exact ⟨[], rfl, trivial, rfl⟩)) rfl
 intro θ hall
 obtain ⟨_, _, _, _, _, _, _, _, _, _, _, _, _, _, _, _, _, _, h18a, _, _, _, _, _⟩ := hall
 refine G.at [] 0 (env' := [(3, .pointer (some ⟨g18, 0, none⟩)), (5, v4), (6, v5), (7, v19), (8, v24), (57, .bool (!(samB (actOf cr cd ((dmOf cr cd u9).2) u9) ((dmOf cr cd u9).1))))]) ⟨rfl, rfl, rfl, rfl, rfl, rfl, trivial⟩ (own' := ints 3 ((θ 18).getD 0 undef) (actOf cr cd ((dmOf cr cd u9).2) u9) :: ints 3 v24 ((dmOf cr cd u9).1) :: ints 3 v26 ((dmOf cr cd u9).2) :: lst 22 v19 u20 :: many (ints 3) u20 (orOf cr cd u9) :: box g18 27 [.int .i64 (cr), v2] :: ints 3 v2 cd :: ints 3 v3 u7 :: ints 3 v4 u8 :: ints 3 v5 u9 :: own) rfl ?_
 have hs30 : IsS ((θ 18).getD 0 undef) := h18a
 clear h18a
 generalize ((θ 18).getD 0 undef) = v31 at *
 show G _ _ _ [] _ _ _ _
 refine G.nil (GE.then_ ?_)
 refine GC.cond rfl (fun hc32 => ?_) (fun hc32 => ?_)
 replace hc32 := eq_false_of_not hc32
 exact Bool.noConfusion (hc32.symm.trans hA)
 replace hc32 := eq_true_of_not hc32
 refine GC.skip (GE.then_ (GC.seq (GC.region ?_)))
 refine G.stepD (OD.loadAgg rfl ti27 rfl (i := 5) rfl (us := [.int .i64 (cr), v2]) rfl rfl) rfl rfl rfl ?_
 refine G.stepD (OD.move rfl rfl) rfl rfl rfl ?_
 refine G.stepD (OD.move rfl rfl) rfl rfl rfl ?_
 refine G.step (OG.call [.agg #[.int .i64 (cr), v2], v4, v5] ent27 rfl rfl rfl rfl (by exact (actWeightT_w hs10 (Ent.ints (i := 6) rfl) hs12 (Ent.ints (i := 8) rfl) hs13 (Ent.ints (i := 9) rfl) (hl0) (by omega) (by omega) ((Ent.drop 10 hg))))) rfl rfl rfl ?_
 rintro v33 _ ⟨_, rfl, hs34, rfl⟩
 refine G.stepD (OD.assign rfl rfl) rfl rfl rfl ?_
 refine G.nil (GE.then_ (GC.seq (GC.region ?_)))
 refine G.stepD (OD.assign rfl rfl) rfl rfl rfl ?_
 refine G.nil (GE.then_ (GC.seq (GC.seq (GC.region ?_))))
 refine G.stepD (OD.assign rfl rfl) rfl rfl rfl ?_
 refine G.nil (GE.then_ (GC.block ?_))
 refine GC.loop (ι := Nat × Bool) (fun ⟨i, f⟩ => [(3, .pointer (some ⟨g18, 0, none⟩)), (7, v19), (8, v24), (10, v33), (11, .bool (f)), (12, .int .i64 ((i : Int)))]) (fun ⟨i, f⟩ => ints 3 v33 (actOf cr cd u8 u9) :: ints 3 v31 (actOf cr cd ((dmOf cr cd u9).2) u9) :: ints 3 v24 ((dmOf cr cd u9).1) :: ints 3 v26 ((dmOf cr cd u9).2) :: lst 22 v19 u20 :: many (ints 3) u20 (orOf cr cd u9) :: box g18 27 [.int .i64 (cr), v2] :: ints 3 v2 cd :: ints 3 v3 u7 :: ints 3 v4 u8 :: ints 3 v5 u9 :: own) (fun ⟨i, f⟩ => (i ≤ (orOf cr cd u9).length) ∧ (f = ((orOf cr cd u9).take i).any (fun q => samB q (actOf cr cd u8 u9)))) (fun ⟨i, f⟩ => (orOf cr cd u9).length - i) (0, false) (⟨by omega, by simp⟩) ⟨rfl, rfl, rfl, rfl, rfl, rfl, trivial⟩ [] 0 rfl ?_
 rintro ⟨i, f⟩ ⟨hi, hf⟩
 refine GC.seq (GC.seq (GC.region ?_))
 refine G.stepD (OD.move rfl rfl) rfl rfl rfl ?_
 refine G.stepD (OD.move rfl rfl) rfl rfl rfl ?_
 refine G.stepD (OD.len rfl rfl et39 rfl (Ent.lst (i := 4) rfl)) rfl rfl rfl ?_
 refine G.stepD (OD.lss rfl rfl rfl) rfl rfl rfl ?_
 refine G.nil (GE.then_ ?_)
 refine GC.cond rfl (fun hc35 => ?_) (fun hc35 => ?_)
 replace hc35 := of_decide_eq_true hc35
 have hxm := getD_mem (L := (orOf cr cd u9)) (k := i) (by omega)
 obtain ⟨hxl, hxd⟩ := xD _ hxm
 have hxl2 : ((orOf cr cd u9).getD ((i : Int)).toNat []).length = cr.toNat := hxl
 refine GC.skip (GE.then_ (GC.seq (GC.block (GC.seq (GC.region ?_)))))
 refine G.stepD (OD.move rfl rfl) rfl rfl rfl ?_
 refine G.stepD (OD.move rfl rfl) rfl rfl rfl ?_
 rcases Bool.eq_false_or_eq_true (f) with hg36 | hg36
 have hg36e := hg36
 refine G.at [] 0 (env' := [(3, .pointer (some ⟨g18, 0, none⟩)), (7, v19), (8, v24), (10, v33), (11, .bool true), (12, .int .i64 ((i : Int))), (62, .int .i64 ((i : Int))), (63, v19), (64, .int .i64 ((u20.length : Nat))), (65, .bool (decide ((i : Int) < (u20.length : Nat)))), (68, .bool true), (69, .bool true)]) (⟨rfl, rfl, rfl, rfl, (congrArg (fun b => some (Value.bool b)) hg36e), rfl, rfl, rfl, rfl, rfl, (congrArg (fun b => some (Value.bool b)) hg36e), (congrArg (fun b => some (Value.bool b)) hg36e), trivial⟩) rfl ?_
 refine G.skipG rfl rfl rfl rfl rfl rfl (G.skipG rfl rfl rfl rfl rfl rfl (G.skipG rfl rfl rfl rfl rfl rfl (G.skipG rfl rfl rfl rfl rfl rfl (G.skipG rfl rfl rfl rfl rfl rfl (G.skipG rfl rfl rfl rfl rfl rfl ?_)))))
 refine G.stepD (OD.pickT rfl rfl rfl) rfl rfl rfl ?_
 refine G.stepD (OD.assign rfl rfl) rfl rfl rfl ?_
 refine G.nil (GE.then_ (GC.seq (GC.region ?_)))
 refine G.stepD (OD.assign rfl rfl) rfl rfl rfl ?_
 refine G.nil (GE.then_ (GC.seq (GC.seq (GC.region ?_))))
 refine G.stepD (OD.assign rfl rfl) rfl rfl rfl ?_
 refine G.nil (GE.then_ (GC.block ?_))
 refine GC.loop (ι := Nat × Bool) (fun ⟨j, e⟩ => [(3, .pointer (some ⟨g18, 0, none⟩)), (7, v19), (8, v24), (10, v33), (12, .int .i64 ((i : Int))), (11, .bool true), (13, .bool (e)), (14, .int .i64 ((j : Int)))]) (fun ⟨j, e⟩ => ints 3 v33 (actOf cr cd u8 u9) :: ints 3 v31 (actOf cr cd ((dmOf cr cd u9).2) u9) :: ints 3 v24 ((dmOf cr cd u9).1) :: ints 3 v26 ((dmOf cr cd u9).2) :: lst 22 v19 u20 :: many (ints 3) u20 (orOf cr cd u9) :: box g18 27 [.int .i64 (cr), v2] :: ints 3 v2 cd :: ints 3 v3 u7 :: ints 3 v4 u8 :: ints 3 v5 u9 :: own) (fun ⟨j, e⟩ => ((j : Int) ≤ cr) ∧ (e = (List.range j).all (fun q => decide (0 ≤ ((orOf cr cd u9).getD i []).getD q 0)))) (fun ⟨j, e⟩ => cr.toNat - j) (0, true) (⟨by omega, by simp⟩) ⟨rfl, rfl, rfl, rfl, rfl, rfl, rfl, rfl, trivial⟩ [] 0 rfl ?_
 rintro ⟨j, e⟩ ⟨hj, he⟩
 refine GC.seq (GC.seq (GC.region ?_))
 refine G.stepD (OD.move rfl rfl) rfl rfl rfl ?_
 refine G.stepD (OD.fieldAddr rfl rfl fa27_0) rfl rfl rfl ?_
 refine G.stepD (OD.load rfl ti3 rfl (i := 6) rfl rfl) rfl rfl rfl ?_
 refine G.stepD (OD.lss rfl rfl rfl) rfl rfl rfl ?_
 refine G.nil (GE.then_ ?_)
 refine GC.cond rfl (fun hc37 => ?_) (fun hc37 => ?_)
 replace hc37 := of_decide_eq_true hc37
 refine GC.skip (GE.then_ (GC.seq (GC.block (GC.region ?_))))
 refine G.stepD (OD.move rfl rfl) rfl rfl rfl ?_
 refine G.stepD (OD.move rfl rfl) rfl rfl rfl ?_
 rcases Bool.eq_false_or_eq_true (e) with hg38 | hg38
 have hg38e := hg38
 refine G.at [] 0 (env' := [(3, .pointer (some ⟨g18, 0, none⟩)), (7, v19), (8, v24), (10, v33), (12, .int .i64 ((i : Int))), (11, .bool true), (13, .bool true), (14, .int .i64 ((j : Int))), (77, .int .i64 ((j : Int))), (78, .pointer (some ⟨g18, 0, none⟩)), (79, .int .i64 (cr)), (80, .bool (decide ((j : Int) < cr))), (83, .bool true), (84, .bool true)]) (⟨rfl, rfl, rfl, rfl, rfl, rfl, (congrArg (fun b => some (Value.bool b)) hg38e), rfl, rfl, rfl, rfl, rfl, (congrArg (fun b => some (Value.bool b)) hg38e), (congrArg (fun b => some (Value.bool b)) hg38e), trivial⟩) rfl ?_
 refine G.stepGD (OD.move rfl rfl) rfl rfl rfl rfl rfl ?_
 refine G.stepGD (OD.move rfl rfl) rfl rfl rfl rfl rfl ?_
 refine G.stepGD (OD.indexAddr rfl et39 rfl (Ent.lst (i := 4) rfl) rfl (by omega)) rfl rfl rfl rfl rfl ?_
 refine G.stepGD (OD.loadElem rfl ti22 rfl (Ent.lst (i := 4) rfl) (by omega) rfl) rfl rfl rfl rfl rfl ?_
 refine G.stepGD (OD.move rfl rfl) rfl rfl rfl rfl rfl ?_
 refine G.stepGD (OD.indexAddr rfl et22 rfl (Ent.manyInts (i := 5) rfl ⟨by first | omega | (simp; omega), by first | omega | (simp; omega)⟩) rfl (by omega)) rfl rfl rfl rfl rfl ?_
 refine G.stepGD (OD.loadInt rfl ti3 rfl (Ent.manyInts (i := 5) rfl ⟨by first | omega | (simp; omega), by first | omega | (simp; omega)⟩) (by omega)) rfl rfl rfl rfl rfl ?_
 refine G.stepGD (OD.geq rfl rfl rfl) rfl rfl rfl rfl rfl ?_
 refine G.stepD (OD.pickT rfl rfl rfl) rfl rfl rfl ?_
 refine G.stepD (OD.assign rfl rfl) rfl rfl rfl ?_
 refine G.nil (GE.blockN (GE.then_ (GC.region ?_)))
 refine G.stepD (OD.move rfl rfl) rfl rfl rfl ?_
 refine G.stepD (OD.addI rfl rfl rfl (by omega)) rfl rfl rfl ?_
 refine G.stepD (OD.assign rfl rfl) rfl rfl rfl ?_
 refine G.nil ?_
 exact GE.again (j + 1, (decide (0 ≤ ((orOf cr cd u9).getD (i) []).getD (j) 0))) (⟨by omega, allF_true he (by assumption)⟩) (by first | omega | (dsimp only; omega)) ⟨rfl, rfl, rfl, rfl, rfl, rfl, rfl, rfl, trivial⟩ [] 0 rfl
 have hg38e := hg38
 refine G.at [] 0 (env' := [(3, .pointer (some ⟨g18, 0, none⟩)), (7, v19), (8, v24), (10, v33), (12, .int .i64 ((i : Int))), (11, .bool true), (13, .bool false), (14, .int .i64 ((j : Int))), (77, .int .i64 ((j : Int))), (78, .pointer (some ⟨g18, 0, none⟩)), (79, .int .i64 (cr)), (80, .bool (decide ((j : Int) < cr))), (83, .bool false), (84, .bool false)]) (⟨rfl, rfl, rfl, rfl, rfl, rfl, (congrArg (fun b => some (Value.bool b)) hg38e), rfl, rfl, rfl, rfl, rfl, (congrArg (fun b => some (Value.bool b)) hg38e), (congrArg (fun b => some (Value.bool b)) hg38e), trivial⟩) rfl ?_
 refine G.skipG rfl rfl rfl rfl rfl rfl (G.skipG rfl rfl rfl rfl rfl rfl (G.skipG rfl rfl rfl rfl rfl rfl (G.skipG rfl rfl rfl rfl rfl rfl (G.skipG rfl rfl rfl rfl rfl rfl (G.skipG rfl rfl rfl rfl rfl rfl (G.skipG rfl rfl rfl rfl rfl rfl (G.skipG rfl rfl rfl rfl rfl rfl ?_)))))))
 refine G.stepD (OD.pickF rfl rfl rfl) rfl rfl rfl ?_
 refine G.stepD (OD.assign rfl rfl) rfl rfl rfl ?_
 refine G.nil (GE.blockN (GE.then_ (GC.region ?_)))
 refine G.stepD (OD.move rfl rfl) rfl rfl rfl ?_
 refine G.stepD (OD.addI rfl rfl rfl (by omega)) rfl rfl rfl ?_
 refine G.stepD (OD.assign rfl rfl) rfl rfl rfl ?_
 refine G.nil ?_
 exact GE.again (j + 1, (false)) (⟨by omega, allF_false he (by assumption)⟩) (by first | omega | (dsimp only; omega)) ⟨rfl, rfl, rfl, rfl, rfl, rfl, rfl, rfl, trivial⟩ [] 0 rfl
 replace hc37 := of_decide_eq_false hc37
 have heq : e = samB ((orOf cr cd u9).getD i []) (dmOf cr cd u9).1 := allF_eq (by omega) he hxd
 refine GC.exit (GE.pass (GE.pass (GE.hit (GE.then_ (GC.seq (GC.region ?_))))))
 refine G.stepD (OD.move rfl rfl) rfl rfl rfl ?_
 refine G.stepD (OD.move rfl rfl) rfl rfl rfl ?_
 refine G.stepD (OD.move rfl rfl) rfl rfl rfl ?_
 refine G.stepD (OD.indexAddr rfl et39 rfl (Ent.lst (i := 4) rfl) rfl (by omega)) rfl rfl rfl ?_
 refine G.stepD (OD.loadElem rfl ti22 rfl (Ent.lst (i := 4) rfl) (by omega) rfl) rfl rfl rfl ?_
 refine G.stepD (OD.move rfl rfl) rfl rfl rfl ?_
 refine G.step (OG.call [(u20.getD (i) undef), v24] ent25 rfl rfl rfl rfl (by exact (lawsInts_s (hs22.get (by omega)) (Ent.manyInts (i := 5) rfl ⟨by first | omega | (simp; omega), by first | omega | (simp; omega)⟩) hs25 (Ent.ints (i := 2) rfl) (by omega)))) rfl rfl rfl ?_
 rintro _ _ ⟨rfl, rfl⟩
 refine G.stepD (OD.eqv (OD.neqB bt4 rfl rfl rfl) (congrArg Value.bool ((by rw [heq]; exact bneB_same _) : _ = false))) rfl rfl rfl ?_
 refine G.nil (GE.then_ (GC.condF rfl (GC.skip (GE.blockN (GE.then_ (GC.region ?_))))))
 refine G.stepD (OD.move rfl rfl) rfl rfl rfl ?_
 refine G.stepD (OD.addI rfl rfl rfl (by omega)) rfl rfl rfl ?_
 refine G.stepD (OD.assign rfl rfl) rfl rfl rfl ?_
 refine G.nil ?_
 exact GE.again (i + 1, (true)) (⟨by omega, anyF_true hf (by assumption)⟩) (by first | omega | (dsimp only; omega)) ⟨rfl, rfl, rfl, rfl, rfl, rfl, trivial⟩ [] 0 rfl
 have hg36e := hg36
 refine G.at [] 0 (env' := [(3, .pointer (some ⟨g18, 0, none⟩)), (7, v19), (8, v24), (10, v33), (11, .bool false), (12, .int .i64 ((i : Int))), (62, .int .i64 ((i : Int))), (63, v19), (64, .int .i64 ((u20.length : Nat))), (65, .bool (decide ((i : Int) < (u20.length : Nat)))), (68, .bool false), (69, .bool false)]) (⟨rfl, rfl, rfl, rfl, (congrArg (fun b => some (Value.bool b)) hg36e), rfl, rfl, rfl, rfl, rfl, (congrArg (fun b => some (Value.bool b)) hg36e), (congrArg (fun b => some (Value.bool b)) hg36e), trivial⟩) rfl ?_
 refine G.stepGD (OD.move rfl rfl) rfl rfl rfl rfl rfl ?_
 refine G.stepGD (OD.move rfl rfl) rfl rfl rfl rfl rfl ?_
 refine G.stepGD (OD.indexAddr rfl et39 rfl (Ent.lst (i := 4) rfl) rfl (by omega)) rfl rfl rfl rfl rfl ?_
 refine G.stepGD (OD.loadElem rfl ti22 rfl (Ent.lst (i := 4) rfl) (by omega) rfl) rfl rfl rfl rfl rfl ?_
 refine G.stepGD (OD.move rfl rfl) rfl rfl rfl rfl rfl ?_
 refine G.stepG (OG.call [(u20.getD (i) undef), v33] ent25 rfl rfl rfl rfl (by exact (lawsInts_s (hs22.get (by omega)) (Ent.manyInts (i := 5) rfl ⟨by first | omega | (simp; omega), by first | omega | (simp; omega)⟩) hs34 (Ent.ints (i := 0) rfl) (by omega)))) rfl rfl rfl rfl rfl ?_
 rintro _ _ ⟨rfl, rfl⟩
 refine G.stepD (OD.pickF rfl rfl rfl) rfl rfl rfl ?_
 refine G.stepD (OD.assign rfl rfl) rfl rfl rfl ?_
 refine G.nil (GE.then_ (GC.seq (GC.region ?_)))
 refine G.stepD (OD.assign rfl rfl) rfl rfl rfl ?_
 refine G.nil (GE.then_ (GC.seq (GC.seq (GC.region ?_))))
 refine G.stepD (OD.assign rfl rfl) rfl rfl rfl ?_
 refine G.nil (GE.then_ (GC.block ?_))
 refine GC.loop (ι := Nat × Bool) (fun ⟨j, e⟩ => [(3, .pointer (some ⟨g18, 0, none⟩)), (7, v19), (8, v24), (10, v33), (12, .int .i64 ((i : Int))), (11, .bool (samB ((orOf cr cd u9).getD (i) []) (actOf cr cd u8 u9))), (13, .bool (e)), (14, .int .i64 ((j : Int)))]) (fun ⟨j, e⟩ => ints 3 v33 (actOf cr cd u8 u9) :: ints 3 v31 (actOf cr cd ((dmOf cr cd u9).2) u9) :: ints 3 v24 ((dmOf cr cd u9).1) :: ints 3 v26 ((dmOf cr cd u9).2) :: lst 22 v19 u20 :: many (ints 3) u20 (orOf cr cd u9) :: box g18 27 [.int .i64 (cr), v2] :: ints 3 v2 cd :: ints 3 v3 u7 :: ints 3 v4 u8 :: ints 3 v5 u9 :: own) (fun ⟨j, e⟩ => ((j : Int) ≤ cr) ∧ (e = (List.range j).all (fun q => decide (0 ≤ ((orOf cr cd u9).getD i []).getD q 0)))) (fun ⟨j, e⟩ => cr.toNat - j) (0, true) (⟨by omega, by simp⟩) ⟨rfl, rfl, rfl, rfl, rfl, rfl, rfl, rfl, trivial⟩ [] 0 rfl ?_
 rintro ⟨j, e⟩ ⟨hj, he⟩
 refine GC.seq (GC.seq (GC.region ?_))
 refine G.stepD (OD.move rfl rfl) rfl rfl rfl ?_
 refine G.stepD (OD.fieldAddr rfl rfl fa27_0) rfl rfl rfl ?_
 refine G.stepD (OD.load rfl ti3 rfl (i := 6) rfl rfl) rfl rfl rfl ?_
 refine G.stepD (OD.lss rfl rfl rfl) rfl rfl rfl ?_
 refine G.nil (GE.then_ ?_)
 refine GC.cond rfl (fun hc39 => ?_) (fun hc39 => ?_)
 replace hc39 := of_decide_eq_true hc39
 refine GC.skip (GE.then_ (GC.seq (GC.block (GC.region ?_))))
 refine G.stepD (OD.move rfl rfl) rfl rfl rfl ?_
 refine G.stepD (OD.move rfl rfl) rfl rfl rfl ?_
 rcases Bool.eq_false_or_eq_true (e) with hg40 | hg40
 have hg40e := hg40
 refine G.at [] 0 (env' := [(3, .pointer (some ⟨g18, 0, none⟩)), (7, v19), (8, v24), (10, v33), (12, .int .i64 ((i : Int))), (11, .bool (samB ((orOf cr cd u9).getD (i) []) (actOf cr cd u8 u9))), (13, .bool true), (14, .int .i64 ((j : Int))), (77, .int .i64 ((j : Int))), (78, .pointer (some ⟨g18, 0, none⟩)), (79, .int .i64 (cr)), (80, .bool (decide ((j : Int) < cr))), (83, .bool true), (84, .bool true)]) (⟨rfl, rfl, rfl, rfl, rfl, rfl, (congrArg (fun b => some (Value.bool b)) hg40e), rfl, rfl, rfl, rfl, rfl, (congrArg (fun b => some (Value.bool b)) hg40e), (congrArg (fun b => some (Value.bool b)) hg40e), trivial⟩) rfl ?_
 refine G.stepGD (OD.move rfl rfl) rfl rfl rfl rfl rfl ?_
 refine G.stepGD (OD.move rfl rfl) rfl rfl rfl rfl rfl ?_
 refine G.stepGD (OD.indexAddr rfl et39 rfl (Ent.lst (i := 4) rfl) rfl (by omega)) rfl rfl rfl rfl rfl ?_
 refine G.stepGD (OD.loadElem rfl ti22 rfl (Ent.lst (i := 4) rfl) (by omega) rfl) rfl rfl rfl rfl rfl ?_
 refine G.stepGD (OD.move rfl rfl) rfl rfl rfl rfl rfl ?_
 refine G.stepGD (OD.indexAddr rfl et22 rfl (Ent.manyInts (i := 5) rfl ⟨by first | omega | (simp; omega), by first | omega | (simp; omega)⟩) rfl (by omega)) rfl rfl rfl rfl rfl ?_
 refine G.stepGD (OD.loadInt rfl ti3 rfl (Ent.manyInts (i := 5) rfl ⟨by first | omega | (simp; omega), by first | omega | (simp; omega)⟩) (by omega)) rfl rfl rfl rfl rfl ?_
 refine G.stepGD (OD.geq rfl rfl rfl) rfl rfl rfl rfl rfl ?_
 refine G.stepD (OD.pickT rfl rfl rfl) rfl rfl rfl ?_
 refine G.stepD (OD.assign rfl rfl) rfl rfl rfl ?_
 refine G.nil (GE.blockN (GE.then_ (GC.region ?_)))
 refine G.stepD (OD.move rfl rfl) rfl rfl rfl ?_
 refine G.stepD (OD.addI rfl rfl rfl (by omega)) rfl rfl rfl ?_
 refine G.stepD (OD.assign rfl rfl) rfl rfl rfl ?_
 refine G.nil ?_
 exact GE.again (j + 1, (decide (0 ≤ ((orOf cr cd u9).getD (i) []).getD (j) 0))) (⟨by omega, allF_true he (by assumption)⟩) (by first | omega | (dsimp only; omega)) ⟨rfl, rfl, rfl, rfl, rfl, rfl, rfl, rfl, trivial⟩ [] 0 rfl
 have hg40e := hg40
 refine G.at [] 0 (env' := [(3, .pointer (some ⟨g18, 0, none⟩)), (7, v19), (8, v24), (10, v33), (12, .int .i64 ((i : Int))), (11, .bool (samB ((orOf cr cd u9).getD (i) []) (actOf cr cd u8 u9))), (13, .bool false), (14, .int .i64 ((j : Int))), (77, .int .i64 ((j : Int))), (78, .pointer (some ⟨g18, 0, none⟩)), (79, .int .i64 (cr)), (80, .bool (decide ((j : Int) < cr))), (83, .bool false), (84, .bool false)]) (⟨rfl, rfl, rfl, rfl, rfl, rfl, (congrArg (fun b => some (Value.bool b)) hg40e), rfl, rfl, rfl, rfl, rfl, (congrArg (fun b => some (Value.bool b)) hg40e), (congrArg (fun b => some (Value.bool b)) hg40e), trivial⟩) rfl ?_
 refine G.skipG rfl rfl rfl rfl rfl rfl (G.skipG rfl rfl rfl rfl rfl rfl (G.skipG rfl rfl rfl rfl rfl rfl (G.skipG rfl rfl rfl rfl rfl rfl (G.skipG rfl rfl rfl rfl rfl rfl (G.skipG rfl rfl rfl rfl rfl rfl (G.skipG rfl rfl rfl rfl rfl rfl (G.skipG rfl rfl rfl rfl rfl rfl ?_)))))))
 refine G.stepD (OD.pickF rfl rfl rfl) rfl rfl rfl ?_
 refine G.stepD (OD.assign rfl rfl) rfl rfl rfl ?_
 refine G.nil (GE.blockN (GE.then_ (GC.region ?_)))
 refine G.stepD (OD.move rfl rfl) rfl rfl rfl ?_
 refine G.stepD (OD.addI rfl rfl rfl (by omega)) rfl rfl rfl ?_
 refine G.stepD (OD.assign rfl rfl) rfl rfl rfl ?_
 refine G.nil ?_
 exact GE.again (j + 1, (false)) (⟨by omega, allF_false he (by assumption)⟩) (by first | omega | (dsimp only; omega)) ⟨rfl, rfl, rfl, rfl, rfl, rfl, rfl, rfl, trivial⟩ [] 0 rfl
 replace hc39 := of_decide_eq_false hc39
 have heq : e = samB ((orOf cr cd u9).getD i []) (dmOf cr cd u9).1 := allF_eq (by omega) he hxd
 refine GC.exit (GE.pass (GE.pass (GE.hit (GE.then_ (GC.seq (GC.region ?_))))))
 refine G.stepD (OD.move rfl rfl) rfl rfl rfl ?_
 refine G.stepD (OD.move rfl rfl) rfl rfl rfl ?_
 refine G.stepD (OD.move rfl rfl) rfl rfl rfl ?_
 refine G.stepD (OD.indexAddr rfl et39 rfl (Ent.lst (i := 4) rfl) rfl (by omega)) rfl rfl rfl ?_
 refine G.stepD (OD.loadElem rfl ti22 rfl (Ent.lst (i := 4) rfl) (by omega) rfl) rfl rfl rfl ?_
 refine G.stepD (OD.move rfl rfl) rfl rfl rfl ?_
 refine G.step (OG.call [(u20.getD (i) undef), v24] ent25 rfl rfl rfl rfl (by exact (lawsInts_s (hs22.get (by omega)) (Ent.manyInts (i := 5) rfl ⟨by first | omega | (simp; omega), by first | omega | (simp; omega)⟩) hs25 (Ent.ints (i := 2) rfl) (by omega)))) rfl rfl rfl ?_
 rintro _ _ ⟨rfl, rfl⟩
 refine G.stepD (OD.eqv (OD.neqB bt4 rfl rfl rfl) (congrArg Value.bool ((by rw [heq]; exact bneB_same _) : _ = false))) rfl rfl rfl ?_
 refine G.nil (GE.then_ (GC.condF rfl (GC.skip (GE.blockN (GE.then_ (GC.region ?_))))))
 refine G.stepD (OD.move rfl rfl) rfl rfl rfl ?_
 refine G.stepD (OD.addI rfl rfl rfl (by omega)) rfl rfl rfl ?_
 refine G.stepD (OD.assign rfl rfl) rfl rfl rfl ?_
 refine G.nil ?_
 exact GE.again (i + 1, (samB ((orOf cr cd u9).getD (i) []) (actOf cr cd u8 u9))) (⟨by omega, anyF_false (by omega) hf (by assumption)⟩) (by first | omega | (dsimp only; omega)) ⟨rfl, rfl, rfl, rfl, rfl, rfl, trivial⟩ [] 0 rfl
 replace hc35 := of_decide_eq_false hc35
 have hft : f = true := anyF_all (by omega) hf aM
 refine GC.exit (GE.pass (GE.pass (GE.hit (GE.then_ (GC.seq (GC.region ?_))))))
 refine G.stepD (OD.loadAgg rfl ti27 rfl (i := 6) rfl (us := [.int .i64 (cr), v2]) rfl rfl) rfl rfl rfl ?_
 refine G.stepD (OD.move rfl rfl) rfl rfl rfl ?_
 refine G.step (OG.call [.agg #[.int .i64 (cr), v2], v33] ent31 rfl rfl rfl rfl (by exact (dominantOf_w hs10 (Ent.ints (i := 7) rfl) hs34 (Ent.ints (i := 0) rfl) (hl0) (by omega) ((Ent.drop 11 hg))))) rfl rfl rfl ?_
 rintro _ _ ⟨v41, v43, rfl, hs42, hs44, rfl⟩
 refine G.stepD (OD.move rfl rfl) rfl rfl rfl ?_
 refine G.stepD (OD.extract rfl rfl rfl) rfl rfl rfl ?_
 refine G.stepD (OD.extract rfl rfl rfl) rfl rfl rfl ?_
 refine G.stepD (OD.assign rfl rfl) rfl rfl rfl ?_
 refine G.stepD (OD.assign rfl rfl) rfl rfl rfl ?_
 refine G.nil (GE.then_ (GC.seq (GC.region ?_)))
 refine G.stepD (OD.eqv (OD.move rfl rfl) (congrArg Value.bool hft)) rfl rfl rfl ?_
 refine G.stepD (OD.move rfl rfl) rfl rfl rfl ?_
 refine G.stepGD (OD.move rfl rfl) rfl rfl rfl rfl rfl ?_
 refine G.stepGD (OD.move rfl rfl) rfl rfl rfl rfl rfl ?_
 refine G.stepG (OG.call [v41, v24] ent25 rfl rfl rfl rfl (by exact (lawsInts_s hs42 (Ent.ints (i := 0) rfl) hs25 (Ent.ints (i := 4) rfl) (Nat.le_trans (dmOf_len _ _ _).1 (by decide))))) rfl rfl rfl rfl rfl ?_
 rintro _ _ ⟨rfl, rfl⟩
 refine G.stepD (OD.pickT rfl rfl rfl) rfl rfl rfl ?_
 refine G.stepD (OD.assign rfl rfl) rfl rfl rfl ?_
 refine G.nil (GE.then_ (GC.ret ?_))
 exact GE.body [] 13 (res1 rfl rfl) rfl (⟨congrArg (fun (a0 : Bool) => (.bool (a0) : Value)) ((samB_of aD : (samB ((dmOf cr cd (actOf cr cd u8 u9)).1) ((dmOf cr cd u9).1) : Bool) = true)), rfl⟩)
end Go.Proofs.YtgelkakjmbiibaaGreatDoor
