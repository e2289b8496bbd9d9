/-
  The law on roots and reflections.
-/
import Derived.Test.YtgelkakjmbiibaaGreatDoorFct
import Derived.Test.YtgelkakjmbiibaaGreatDoorWDrR
import Derived.Test.YtgelkakjmbiibaaGreatDoorWNewA
import Derived.Test.YtgelkakjmbiibaaGreatDoorZ10
import Derived.Test.YtgelkakjmbiibaaGreatDoorWInO
import Derived.Test.YtgelkakjmbiibaaGreatDoorWCor
import Derived.Test.YtgelkakjmbiibaaGreatDoorWRfl
import Derived.Test.YtgelkakjmbiibaaGreatDoorWStg
import Derived.Test.YtgelkakjmbiibaaGreatDoorRcs
namespace Go.Proofs.YtgelkakjmbiibaaGreatDoor
set_option linter.unusedVariables false
set_option linter.unusedSimpArgs false
open Go.RowKit
theorem ent19 : ∀ us w, (callFunc 19 us).run Tryz.prog w = .ok (.enter 19 us) w := fun us w => by kernel_rfl
theorem ent25 : ∀ us w, (callFunc 25 us).run Tryz.prog w = .ok (.enter 25 us) w := fun us w => by kernel_rfl
theorem ent28 : ∀ us w, (callFunc 28 us).run Tryz.prog w = .ok (.enter 28 us) w := fun us w => by kernel_rfl
theorem ent48 : ∀ us w, (callFunc 48 us).run Tryz.prog w = .ok (.enter 48 us) w := fun us w => by kernel_rfl
theorem ent49 : ∀ us w, (callFunc 49 us).run Tryz.prog w = .ok (.enter 49 us) w := fun us w => by kernel_rfl
theorem ent50 : ∀ us w, (callFunc 50 us).run Tryz.prog w = .ok (.enter 50 us) w := fun us w => by kernel_rfl
theorem ent51 : ∀ us w, (callFunc 51 us).run Tryz.prog w = .ok (.enter 51 us) w := fun us w => by kernel_rfl
theorem ent52 : ∀ us w, (callFunc 52 us).run Tryz.prog w = .ok (.enter 52 us) w := fun us w => by kernel_rfl
theorem ent53 : ∀ us w, (callFunc 53 us).run Tryz.prog w = .ok (.enter 53 us) w := fun us w => by kernel_rfl
theorem ent54 : ∀ us w, (callFunc 54 us).run Tryz.prog w = .ok (.enter 54 us) w := fun us w => by kernel_rfl
set_option maxRecDepth 100000 in
theorem sum2_w {W : World} {own : List Asn} {vx : Value} {x : List Int} {vy : Value} {y : List Int}  (sx : IsS vx) (ex : Ent own fun w => Ints w vx x)   (sy : IsS vy) (ey : Ent own fun w => Ints w vy y)  (hl : x.length ≤ 1073741824) (hle : x.length ≤ y.length) : Spec Tryz.prog 54 [vx, vy] W own (fun v ow => ∃ (r0 : Value), v = r0 ∧ IsS r0 ∧ ow = ints 3 r0 (adF x y) :: own) := by
 refine Spec.enter Tryz.f54 _ Tryz.func54 rfl (n := 29) rfl rfl ?_
 refine GC.seq (GC.region ?_)
 refine G.stepD (OD.assign rfl rfl) rfl rfl rfl ?_
 refine G.nil (GE.then_ (GC.seq (GC.region ?_)))
 refine G.step (OG.buildInts (xs := []) (is := []) rfl et22 rfl rfl rfl rfl rfl) rfl rfl rfl ?_
 rintro v1 _ ⟨hs2, rfl⟩
 refine G.stepD (OD.move rfl rfl) rfl rfl rfl ?_
 refine G.step (OG.appendInts 0 rfl rfl et22 rfl rfl rfl (Ent.drop 1 ex) (by first | omega | (simp; omega))) rfl rfl rfl ?_
 rintro v3 _ ⟨hs4, rfl⟩
 refine G.ownEq (own' := ints 3 v3 x :: own) (by rw [List.nil_append] <;> rfl) ?_
 skip
 refine G.stepD (OD.assign rfl rfl) rfl rfl rfl ?_
 refine G.nil (GE.then_ (GC.seq (GC.seq (GC.region ?_))))
 refine G.stepD (OD.assign rfl rfl) rfl rfl rfl ?_
 refine G.nil (GE.then_ (GC.block ?_))
 refine GC.loop (ι := Nat × List Int) (fun ⟨i, ys⟩ => [(1, vy), (5, v3), (6, .int .i64 ((i : Int)))]) (fun ⟨i, ys⟩ => ints 3 v3 ys :: own) (fun ⟨i, ys⟩ => (i ≤ x.length) ∧ (ys.length = x.length) ∧ (ys = (List.range i).foldl (adS y) x)) (fun ⟨i, ys⟩ => x.length - i) (0, x) (⟨by omega, rfl, rfl⟩) ⟨rfl, rfl, rfl, trivial⟩ [] 0 rfl ?_
 rintro ⟨i, ys⟩ ⟨hi, hyl, hys⟩
 refine GC.seq (GC.seq (GC.region ?_))
 refine G.stepD (OD.move rfl rfl) rfl rfl rfl ?_
 refine G.stepD (OD.move rfl rfl) rfl rfl rfl ?_
 refine G.stepD (OD.len rfl rfl et22 rfl (Ent.ints (i := 0) rfl)) rfl rfl rfl ?_
 refine G.stepD (OD.lss rfl rfl rfl) rfl rfl rfl ?_
 refine G.nil (GE.then_ ?_)
 refine GC.cond rfl (fun hc5 => ?_) (fun hc5 => ?_)
 replace hc5 := of_decide_eq_true hc5
 refine GC.skip (GE.then_ (GC.seq (GC.block ?_)))
 refine GC.at [] 0 (env' := [(1, vy), (5, v3), (6, .int .i64 ((i : Int)))]) ⟨rfl, rfl, rfl, trivial⟩ rfl ?_
 refine GC.par (its := [⟨16, [], [], [], [], fun _ => v3, fun _ => True, fun _ => []⟩,
     ⟨17, [], [], [], [], fun _ => .int .i64 ((i : Int)), fun _ => True, fun _ => []⟩,
     ⟨18, [], [], [], [], fun _ => v3, fun _ => True, fun _ => []⟩,
     ⟨19, [], [], [], [], fun _ => .int .i64 ((i : Int)), fun _ => True, fun _ => []⟩,
     ⟨20, [(2, 18), (3, 19)], [], [], [], fun _ => elemPtr v3 1 (i), fun _ => True, fun _ => []⟩,
     ⟨21, [(4, 20)], [], [], [], fun _ => .int .i64 (ys.getD (i) 0), fun _ => True, fun _ => []⟩,
     ⟨22, [], [], [], [], fun _ => vy, fun _ => True, fun _ => []⟩,
     ⟨23, [], [], [], [], fun _ => .int .i64 ((i : Int)), fun _ => True, fun _ => []⟩,
     ⟨24, [(6, 22), (7, 23)], [], [], [], fun _ => elemPtr vy 1 (i), fun _ => True, fun _ => []⟩,
     ⟨25, [(8, 24)], [], [], [], fun _ => .int .i64 (y.getD (i) 0), fun _ => True, fun _ => []⟩,
     ⟨26, [(5, 21), (9, 25)], [], [], [], fun _ => .int .i64 (IntKind.i64.wrap ((ys.getD (i) 0) + (y.getD (i) 0))), fun _ => True, fun _ => []⟩,
     ⟨27, [(0, 16), (1, 17)], [], [], [], fun _ => elemPtr v3 1 (i), fun _ => True, fun _ => []⟩]) (by kernel_rfl) (by kernel_rfl) (POps.cons ?_ (POps.cons ?_ (POps.cons ?_ (POps.cons ?_ (POps.cons ?_ (POps.cons ?_ (POps.cons ?_ (POps.cons ?_ (POps.cons ?_ (POps.cons ?_ (POps.cons ?_ (POps.cons ?_ POps.nil)))))))))))) ?_
 intro θ R hd
 exact Opp.plain (OG.imp (OD.move rfl rfl) (by exact fun _ _ h=>pk h rfl trivial rfl)) rfl
 intro θ R hd
 exact Opp.plain (OG.imp (OD.move rfl rfl) (by exact fun _ _ h=>pk h rfl trivial rfl)) rfl
 intro θ R hd
 exact Opp.plain (OG.imp (OD.move rfl rfl) (by exact fun _ _ h=>pk h rfl trivial rfl)) rfl
 intro θ R hd
 exact Opp.plain (OG.imp (OD.move rfl rfl) (by exact fun _ _ h=>pk h rfl trivial rfl)) rfl
 rintro θ R ⟨h2d, h3d, _⟩
 exact Opp.plain (OG.imp (OD.indexAddr rfl et22 rfl (Ent.ints (i := 0) rfl) rfl (by omega)) (by exact fun _ _ h=>pk h rfl trivial rfl)) rfl
 rintro θ R ⟨h4d, _⟩
 exact Opp.plain (OG.imp (OD.loadInt rfl ti3 rfl (Ent.ints (i := 0) rfl) (by omega)) (by exact fun _ _ h=>pk h rfl trivial rfl)) rfl
 intro θ R hd
 exact Opp.plain (OG.imp (OD.move rfl rfl) (by exact fun _ _ h=>pk h rfl trivial rfl)) rfl
 intro θ R hd
 exact Opp.plain (OG.imp (OD.move rfl rfl) (by exact fun _ _ h=>pk h rfl trivial rfl)) rfl
 rintro θ R ⟨h6d, h7d, _⟩
 exact Opp.plain (OG.imp (OD.indexAddr rfl et22 rfl (Ent.drop 1 ey.app) rfl (by omega)) (by exact fun _ _ h=>pk h rfl trivial rfl)) rfl
 rintro θ R ⟨h8d, _⟩
 exact Opp.plain (OG.imp (OD.loadInt rfl ti3 rfl (Ent.drop 1 ey.app) (by omega)) (by exact fun _ _ h=>pk h rfl trivial rfl)) rfl
 rintro θ R ⟨h5d, h9d, _⟩
 exact Opp.plain (OG.imp (OD.add rfl rfl rfl) (by exact fun _ _ h=>pk h rfl trivial rfl)) rfl
 rintro θ R ⟨h0d, h1d, _⟩
 exact Opp.plain (OG.imp (OD.indexAddr rfl et22 rfl (Ent.ints (i := 0) rfl) rfl (by omega)) (by exact fun _ _ h=>pk h rfl trivial rfl)) rfl
 intro θ hall
 obtain ⟨_, _, _, _, _, _, _, _, _, _, _, _, _⟩ := hall
 refine G.at [] 0 (env' := [(1, vy), (5, v3), (6, .int .i64 ((i : Int))), (26, .int .i64 (IntKind.i64.wrap ((ys.getD (i) 0) + (y.getD (i) 0)))), (27, elemPtr v3 1 (i))]) ⟨rfl, rfl, rfl, rfl, rfl, trivial⟩ (own' := ints 3 v3 ys :: own) rfl ?_
 show G _ _ _ [_] _ _ _ _
 refine G.stepD0 (OD.storeInt rfl ti3 rfl rfl (i := 0) rfl (by omega)) rfl rfl ?_
 refine G.nil (GE.blockN (GE.then_ (GC.region ?_)))
 refine G.stepD (OD.move rfl rfl) rfl rfl rfl ?_
 refine G.stepD (OD.addI rfl rfl rfl (by first | omega | (simp only [List.length_set, List.length_replicate]; omega))) rfl rfl rfl ?_
 refine G.stepD (OD.assign rfl rfl) rfl rfl rfl ?_
 refine G.nil ?_
 exact GE.again (i + 1, (ys).set (i) (IntKind.i64.wrap ((ys.getD (i) 0) + (y.getD (i) 0)))) (⟨by omega, by rw [List.length_set]; exact hyl, fold_next hys rfl⟩) (by first | omega | (dsimp only; omega)) ⟨rfl, rfl, rfl, trivial⟩ [] 0 rfl
 replace hc5 := of_decide_eq_false hc5
 refine GC.exit (GE.pass (GE.pass (GE.hit (GE.then_ (GC.seq (GC.region ?_))))))
 refine G.stepD (OD.move rfl rfl) rfl rfl rfl ?_
 refine G.stepD (OD.assign rfl rfl) rfl rfl rfl ?_
 refine G.nil (GE.then_ (GC.ret ?_))
 exact GE.body [] 0 (res1 rfl rfl) rfl (⟨v3, rfl, hs4, congrArg (fun (l0 : List Int) => ints 3 v3 l0 :: own) ((by rw [hys, show i = x.length by omega]; rfl : ys = adF x y))⟩)
set_option maxHeartbeats 4000000 in
set_option maxRecDepth 100000 in
theorem lawRootsClosed {W : World} {own : List Asn} {vcode : Value} {code : List Int}  (scode : IsS vcode) (ecode : Ent own fun w => Byts w vcode code)  (hl : code.length ≤ 9223372036854775807) (hg : Ent own fun w => ∃ m, w.cell? ⟨Tryz.l146_ren.g 1, 0, none⟩ = some (.int .i64 m)) (htab : Ent own Pow10) : Spec Tryz.prog 11 [vcode] W own (fun v ow => v = .bool (true) ∧ ow = own) := by
 refine Spec.enter Tryz.f11 _ Tryz.func11 rfl (n := 158) rfl rfl ?_
 refine GC.seq (GC.region ?_)
 refine G.stepD (OD.assign rfl rfl) rfl rfl rfl ?_
 refine G.nil (GE.then_ (GC.seq (GC.seq (GC.region ?_))))
 refine G.stepD (OD.move rfl rfl) rfl rfl rfl ?_
 refine G.step (OG.call [vcode] ent19 rfl rfl rfl rfl (by exact (big_w scode ecode (by first | omega | (rw [adF_len]; omega) | (simp; omega))))) rfl rfl rfl ?_
 rintro _ _ ⟨rfl, hzz⟩; obtain rfl := hzz.symm
 refine G.nil (GE.then_ ?_)
 refine GC.cond rfl (fun hc1 => ?_) (fun hc1 => ?_)
 replace hc1 := of_decide_eq_true hc1
 refine GC.seq (GC.region ?_)
 refine G.stepD (OD.assign rfl rfl) rfl rfl rfl ?_
 refine G.nil (GE.then_ (GC.ret (GE.passR ?_)))
 exact GE.body [] 0 (res1 rfl rfl) rfl (⟨rfl, rfl⟩)
 replace hc1 := of_decide_eq_false hc1
 refine GC.skip (GE.then_ (GC.seq (GC.region ?_)))
 refine G.stepD (OD.move rfl rfl) rfl rfl rfl ?_
 refine G.step (OG.call [vcode] ent48 rfl rfl rfl rfl (by exact (drawRoots_w scode ecode (by omega)))) rfl rfl rfl ?_
 rintro _ _ ⟨v2, v3, v4, v5, g6, u7, u8, u9, u10, rfl, hs11, hs12, hs13, hs14, hs15, hs16, hs17, hs18, hs19, rfl⟩
 refine G.stepD (OD.move rfl rfl) rfl rfl rfl ?_
 refine G.stepD (OD.extract rfl rfl rfl) rfl rfl rfl ?_
 refine G.stepD (OD.extract rfl rfl rfl) rfl rfl rfl ?_
 refine G.stepD (OD.extract rfl rfl rfl) rfl rfl rfl ?_
 refine G.stepD (OD.extract rfl rfl rfl) rfl rfl rfl ?_
 refine G.step (OG.alloc rfl ti27 (zs := [.int .i64 (0), .slice none 0 0]) rfl) rfl rfl rfl ?_
 rintro _ _ ⟨g20, rfl, rfl⟩
 refine G.stepD0 (OD.store rfl ti27 rfl rfl (us := [.int .i64 (cR (tpNm g6)), v2]) rfl rfl (allC rfl (allC (IsS.one hs11) rfl)) (i := 0) rfl rfl) rfl rfl ?_
 refine G.stepD (OD.assign rfl rfl) rfl rfl rfl ?_
 refine G.stepD (OD.assign rfl rfl) rfl rfl rfl ?_
 refine G.stepD (OD.assign rfl rfl) rfl rfl rfl ?_
 refine G.nil (GE.then_ (GC.seq ?_))
 obtain ⟨hR, hD, hF, hN, hS0, hO⟩ := tpOk (k := g6) (by assumption)
 have hT : tyS (cR (tpNm g6)) (subD (cR (tpNm g6)) (cD (tpNm g6)) u7) = tyS (tpN g6) (tpD g6) := by rw [hR, hD]; exact hO _ (by rw [← hR]; assumption)
 have hS : (tyS (cR (tpNm g6)) (subD (cR (tpNm g6)) (cD (tpNm g6)) u7)).isSome = true := by rw [hT]; exact hS0
 generalize hce : cR (tpNm g6) = cr at *
 generalize hde : subD (cr) (cD (tpNm g6)) u7 = cd at *
 have hcr4 := (tyS_ok hS).1
 have hl0 : cd.length ≤ 1073741824 := Nat.le_trans (cd_small hS) (by decide)
 have hz := (show u10.length = (cr : Int).toNat ∧ ∀ q ∈ u10, -6 ≤ q ∧ q ≤ 6 from by assumption)
 have hL : RcLaw cr cd u8 u9 u10 := rcLaw hS (by assumption) (by assumption) (by have h1 := hz.1; omega) (all_get hz)
 obtain ⟨hlr, hlx, hly⟩ := hL.len
 obtain ⟨hcl1, hcl2⟩ := hL.cl
 have hk1 := hL.k1
 have hk2 := hL.k2
 have hrl1 := rbOf_len cr cd u8 u9
 have hrl2 := rbOf_len cr cd u8 u10
 have hrl3 := rbOf_len cr cd u8 (rbOf cr cd u8 u9)
 have hq1 := hL.rt
 have hq2 := hL.z1
 have hq3 : samB (rbOf cr cd u8 (rbOf cr cd u8 u9)) u9 = true := samB_of hL.z2
 refine GC.region ?_
 refine G.stepD (OD.loadAgg rfl ti27 rfl (i := 0) rfl (us := [.int .i64 (cr), v2]) rfl rfl) rfl rfl rfl ?_
 refine G.stepD (OD.move rfl rfl) rfl rfl rfl ?_
 refine G.stepD (OD.move rfl rfl) rfl rfl rfl ?_
 refine G.step (OG.call [.agg #[.int .i64 (cr), v2], v3, v4] ent49 rfl rfl rfl rfl (by exact (reflectBy_w hs11 (Ent.ints (i := 1) rfl) hs12 (Ent.ints (i := 2) rfl) hs13 (Ent.ints (i := 3) rfl) (hl0) (by omega) (by omega) (hL.all.1) ((Ent.drop 5 hg)) ((Ent.drop 5 htab))))) rfl rfl rfl ?_
 rintro v21 _ ⟨_, rfl, hs22, rfl⟩
 refine G.stepD (OD.assign rfl rfl) rfl rfl rfl ?_
 refine G.nil (GE.then_ (GC.seq (GC.region ?_)))
 refine G.stepD (OD.loadAgg rfl ti27 rfl (i := 1) rfl (us := [.int .i64 (cr), v2]) rfl rfl) rfl rfl rfl ?_
 refine G.stepD (OD.move rfl rfl) rfl rfl rfl ?_
 refine G.stepD (OD.move rfl rfl) rfl rfl rfl ?_
 refine G.step (OG.call [.agg #[.int .i64 (cr), v2], v4, v3] ent50 rfl rfl rfl rfl (by exact (pairOf_w hs11 (Ent.ints (i := 2) rfl) hs13 (Ent.ints (i := 4) rfl) hs12 (Ent.ints (i := 3) rfl) (hl0) (by omega) (by omega) (hL.all.1) ((Ent.drop 6 hg)) ((Ent.drop 6 htab))))) rfl rfl rfl ?_
 rintro _ _ ⟨rfl, rfl⟩
 refine G.stepD (OD.assign rfl rfl) rfl rfl rfl ?_
 refine G.nil (GE.then_ (GC.seq (GC.seq ?_)))
 refine GC.at [] 0 (env' := [(3, .pointer (some ⟨g20, 0, none⟩)), (4, v3), (5, v4), (6, v5), (7, v21), (8, .int .i64 (prOf cr cd u9 u8))]) ⟨rfl, rfl, rfl, rfl, rfl, rfl, trivial⟩ rfl ?_
 refine GC.par (its := [⟨32, [], [], [], [], fun _ => .agg #[.int .i64 (cr), v2], fun _ => True, fun _ => []⟩,
     ⟨33, [], [], [], [], fun _ => v3, fun _ => True, fun _ => []⟩,
     ⟨34, [(0, 32), (1, 33)], [], [], [], fun _ => .bool true, fun _ => True, fun _ => []⟩,
     ⟨35, [(2, 34)], [], [], [], fun _ => .bool false, fun _ => True, fun _ => []⟩,
     ⟨36, [(3, 35)], [], [], [], fun _ => .bool false, fun _ => True, fun _ => []⟩,
     ⟨37, [(4, 36)], [], [], [], fun _ => .agg #[.int .i64 (cr), v2], fun _ => True, fun _ => []⟩,
     ⟨38, [(4, 36)], [], [], [], fun _ => v21, fun _ => True, fun _ => []⟩,
     ⟨39, [(4, 36), (5, 37), (6, 38)], [], [], [], fun _ => .bool true, fun _ => True, fun _ => []⟩,
     ⟨40, [(4, 36), (7, 39)], [], [], [], fun _ => .bool false, fun _ => True, fun _ => []⟩,
     ⟨41, [(4, 36), (8, 40)], [], [], [], fun _ => .bool false, fun _ => True, fun _ => []⟩,
     ⟨42, [(9, 41)], [], [], [], fun _ => .bool false, fun _ => True, fun _ => []⟩,
     ⟨43, [(10, 42)], [], [], [], fun _ => .agg #[.int .i64 (cr), v2], fun _ => True, fun _ => []⟩,
     ⟨44, [(10, 42)], [], [], [], fun _ => v3, fun _ => True, fun _ => []⟩,
     ⟨45, [(10, 42)], [], [], [], fun _ => v21, fun _ => True, fun _ => []⟩,
     ⟨46, [(10, 42), (11, 43), (12, 44), (13, 45)], [], [], [14], fun ds => ((ds.getD 0 []).getD 0 undef), fun ds => IsS ((ds.getD 0 []).getD 0 undef), fun ds => [ints 3 ((ds.getD 0 []).getD 0 undef) (rbOf cr cd u8 (rbOf cr cd u8 u9))]⟩,
     ⟨47, [(10, 42)], [], [], [], fun _ => v4, fun _ => True, fun _ => []⟩,
     ⟨48, [(10, 42), (14, 46), (15, 47)], [14], [], [14], fun _ => .bool true, fun _ => True, fun _ => []⟩,
     ⟨49, [(10, 42), (16, 48)], [14], [], [14], fun _ => .bool false, fun _ => True, fun _ => []⟩,
     ⟨50, [(10, 42), (17, 49)], [14], [], [14], fun _ => .bool false, fun _ => True, fun _ => []⟩,
     ⟨51, [(18, 50)], [14], [], [14], fun _ => .bool false, fun _ => True, fun _ => []⟩,
     ⟨52, [(19, 51)], [14], [], [14], fun _ => .agg #[.int .i64 (cr), v2], fun _ => True, fun _ => []⟩,
     ⟨53, [(19, 51)], [14], [], [14], fun _ => v4, fun _ => True, fun _ => []⟩,
     ⟨54, [(19, 51)], [14], [], [14], fun _ => v3, fun _ => True, fun _ => []⟩,
     ⟨55, [(19, 51), (20, 52), (21, 53), (22, 54)], [14], [], [14], fun _ => .int .i64 (inOf cr cd u9 u8), fun _ => True, fun _ => []⟩,
     ⟨56, [(19, 51), (23, 55)], [14], [], [14], fun _ => .int .i64 (2 * (inOf cr cd u9 u8)), fun _ => True, fun _ => []⟩,
     ⟨57, [(19, 51)], [14], [], [14], fun _ => .int .i64 (prOf cr cd u9 u8), fun _ => True, fun _ => []⟩,
     ⟨58, [(19, 51)], [14], [], [14], fun _ => .agg #[.int .i64 (cr), v2], fun _ => True, fun _ => []⟩,
     ⟨59, [(19, 51)], [14], [], [14], fun _ => v3, fun _ => True, fun _ => []⟩,
     ⟨60, [(19, 51)], [14], [], [14], fun _ => v3, fun _ => True, fun _ => []⟩,
     ⟨61, [(19, 51), (26, 58), (27, 59), (28, 60)], [14], [], [14], fun _ => .int .i64 (inOf cr cd u8 u8), fun _ => True, fun _ => []⟩,
     ⟨62, [(19, 51), (25, 57), (29, 61)], [14], [], [14], fun _ => .int .i64 ((prOf cr cd u9 u8) * (inOf cr cd u8 u8)), fun _ => True, fun _ => []⟩,
     ⟨63, [(19, 51), (24, 56), (30, 62)], [14], [], [14], fun _ => .bool false, fun _ => True, fun _ => []⟩,
     ⟨64, [(19, 51), (31, 63)], [14], [], [14], fun _ => .bool false, fun _ => True, fun _ => []⟩]) (by kernel_rfl) (by kernel_rfl) (POps.cons ?_ (POps.cons ?_ (POps.cons ?_ (POps.cons ?_ (POps.cons ?_ (POps.cons ?_ (POps.cons ?_ (POps.cons ?_ (POps.cons ?_ (POps.cons ?_ (POps.cons ?_ (POps.cons ?_ (POps.cons ?_ (POps.cons ?_ (POps.cons ?_ (POps.cons ?_ (POps.cons ?_ (POps.cons ?_ (POps.cons ?_ (POps.cons ?_ (POps.cons ?_ (POps.cons ?_ (POps.cons ?_ (POps.cons ?_ (POps.cons ?_ (POps.cons ?_ (POps.cons ?_ (POps.cons ?_ (POps.cons ?_ (POps.cons ?_ (POps.cons ?_ (POps.cons ?_ (POps.cons ?_ POps.nil))))))))))))))))))))))))))))))))) ?_
 intro θ R hd
 exact Opp.plain (OG.imp (OD.loadAgg rfl ti27 rfl (i := 1) rfl (us := [.int .i64 (cr), v2]) rfl rfl) (by exact fun _ _ h=>pk h rfl trivial rfl)) rfl
 intro θ R hd
 exact Opp.plain (OG.imp (OD.move rfl rfl) (by exact fun _ _ h=>pk h rfl trivial rfl)) rfl
 rintro θ R ⟨h0d, h1d, _⟩
 exact Opp.plain (OG.imp (OG.imp (K' := fun v ow => v = .bool true ∧ ow = ints 3 v21 (rbOf cr cd u8 u9) :: box g20 27 [.int .i64 (cr), v2] :: ints 3 v2 cd :: ints 3 v3 u8 :: ints 3 v4 u9 :: ints 3 v5 u10 :: own ++ R) (OG.call [.agg #[.int .i64 (cr), v2], v3] ent41 rfl rfl rfl rfl (by exact (isRoot_w hs11 (Ent.ints (i := 2) rfl) hs12 (Ent.ints (i := 3) rfl) (hl0) (by first | omega | (rw [adF_len]; omega) | (simp; omega)) (hL.all.1) ((Ent.drop 6 hg.app)) ((Ent.drop 6 htab.app))))) (by rintro _ _ ⟨rfl, rfl⟩; exact ⟨congrArg Value.bool (hq1), rfl⟩)) (by exact fun _ _ h=>pk h rfl trivial rfl)) rfl
 rintro θ R ⟨h2d, _⟩
 exact Opp.plain (OG.imp (OD.not rfl rfl) (by exact fun _ _ h=>pk h rfl trivial rfl)) rfl
 rintro θ R ⟨h3d, _⟩
 exact Opp.plain (OG.imp (OD.move rfl rfl) (by exact fun _ _ h=>pk h rfl trivial rfl)) rfl
 rintro θ R ⟨h4d, _⟩
 exact Opp.on (OG.imp (OD.loadAgg rfl ti27 rfl (i := 1) rfl (us := [.int .i64 (cr), v2]) rfl rfl) (by exact fun _ _ h=>pk h rfl trivial rfl)) rfl rfl rfl
 rintro θ R ⟨h4d, _⟩
 exact Opp.on (OG.imp (OD.move rfl rfl) (by exact fun _ _ h=>pk h rfl trivial rfl)) rfl rfl rfl
 rintro θ R ⟨h4d, h5d, h6d, _⟩
 exact Opp.on (OG.imp (OG.imp (K' := fun v ow => v = .bool true ∧ ow = ints 3 v21 (rbOf cr cd u8 u9) :: box g20 27 [.int .i64 (cr), v2] :: ints 3 v2 cd :: ints 3 v3 u8 :: ints 3 v4 u9 :: ints 3 v5 u10 :: own ++ R) (OG.call [.agg #[.int .i64 (cr), v2], v21] ent41 rfl rfl rfl rfl (by exact (isRoot_w hs11 (Ent.ints (i := 2) rfl) hs22 (Ent.ints (i := 0) rfl) (hl0) (by first | omega | (rw [adF_len]; omega) | (simp; omega)) (hL.all.2.2.2.1) ((Ent.drop 6 hg.app)) ((Ent.drop 6 htab.app))))) (by rintro _ _ ⟨rfl, rfl⟩; exact ⟨congrArg Value.bool (hq2), rfl⟩)) (by exact fun _ _ h=>pk h rfl trivial rfl)) rfl rfl rfl
 rintro θ R ⟨h4d, h7d, _⟩
 exact Opp.on (OG.imp (OD.not rfl rfl) (by exact fun _ _ h=>pk h rfl trivial rfl)) rfl rfl rfl
 rintro θ R ⟨h4d, h8d, _⟩
 exact Opp.plain (OG.imp (OD.pickF rfl rfl rfl) (by exact fun _ _ h=>pk h rfl trivial rfl)) rfl
 rintro θ R ⟨h9d, _⟩
 exact Opp.plain (OG.imp (OD.move rfl rfl) (by exact fun _ _ h=>pk h rfl trivial rfl)) rfl
 rintro θ R ⟨h10d, _⟩
 exact Opp.on (OG.imp (OD.loadAgg rfl ti27 rfl (i := 1) rfl (us := [.int .i64 (cr), v2]) rfl rfl) (by exact fun _ _ h=>pk h rfl trivial rfl)) rfl rfl rfl
 rintro θ R ⟨h10d, _⟩
 exact Opp.on (OG.imp (OD.move rfl rfl) (by exact fun _ _ h=>pk h rfl trivial rfl)) rfl rfl rfl
 rintro θ R ⟨h10d, _⟩
 exact Opp.on (OG.imp (OD.move rfl rfl) (by exact fun _ _ h=>pk h rfl trivial rfl)) rfl rfl rfl
 rintro θ R ⟨h10d, h11d, h12d, h13d, _⟩
 exact Opp.on (OG.imp (OG.call [.agg #[.int .i64 (cr), v2], v3, v21] ent49 rfl rfl rfl rfl (by exact (reflectBy_w hs11 (Ent.ints (i := 2) rfl) hs12 (Ent.ints (i := 3) rfl) hs22 (Ent.ints (i := 0) rfl) (hl0) (by omega) (by omega) (hL.all.1) ((Ent.drop 6 hg.app)) ((Ent.drop 6 htab.app))))) (by rintro v23 _ ⟨_, rfl, hs24, rfl⟩; exact ⟨[v23], rfl, hs24, rfl⟩)) rfl rfl rfl
 rintro θ R ⟨h10d, _⟩
 exact Opp.on (OG.imp (OD.move rfl rfl) (by exact fun _ _ h=>pk h rfl trivial rfl)) rfl rfl rfl
 rintro θ R ⟨h10d, h14d, h15d, _⟩
 exact Opp.on (OG.imp (OG.imp (K' := fun v ow => v = .bool true ∧ ow = ints 3 ((θ 14).getD 0 undef) (rbOf cr cd u8 (rbOf cr cd u8 u9)) :: ints 3 v21 (rbOf cr cd u8 u9) :: box g20 27 [.int .i64 (cr), v2] :: ints 3 v2 cd :: ints 3 v3 u8 :: ints 3 v4 u9 :: ints 3 v5 u10 :: own ++ R) (OG.call [((θ 14).getD 0 undef), v4] ent25 rfl rfl rfl rfl (by exact (lawsInts_s h14d (Ent.ints (i := 0) rfl) hs13 (Ent.ints (i := 5) rfl) (by first | omega | (rw [adF_len]; omega) | (simp; omega))))) (by rintro _ _ ⟨rfl, rfl⟩; exact ⟨congrArg Value.bool (hq3), rfl⟩)) (by rintro _ _ ⟨rfl, rfl⟩; exact ⟨[], rfl, trivial, (by first | exact left_all | rfl)⟩)) rfl rfl rfl
 rintro θ R ⟨h10d, h16d, _⟩
 exact Opp.on (OG.imp (OD.not rfl rfl) (by rintro _ _ ⟨rfl, rfl⟩; exact ⟨[], rfl, trivial, (by first | exact left_all | rfl)⟩)) rfl rfl rfl
 rintro θ R ⟨h10d, h17d, _⟩
 exact Opp.plain (OG.imp (OD.pickF rfl rfl rfl) (by rintro _ _ ⟨rfl, rfl⟩; exact ⟨[], rfl, trivial, (by first | exact left_all | rfl)⟩)) rfl
 rintro θ R ⟨h18d, _⟩
 exact Opp.plain (OG.imp (OD.move rfl rfl) (by rintro _ _ ⟨rfl, rfl⟩; exact ⟨[], rfl, trivial, (by first | exact left_all | rfl)⟩)) rfl
 rintro θ R ⟨h19d, _⟩
 exact Opp.on (OG.imp (OD.loadAgg rfl ti27 rfl (i := 2) rfl (us := [.int .i64 (cr), v2]) rfl rfl) (by rintro _ _ ⟨rfl, rfl⟩; exact ⟨[], rfl, trivial, (by first | exact left_all | rfl)⟩)) rfl rfl rfl
 rintro θ R ⟨h19d, _⟩
 exact Opp.on (OG.imp (OD.move rfl rfl) (by rintro _ _ ⟨rfl, rfl⟩; exact ⟨[], rfl, trivial, (by first | exact left_all | rfl)⟩)) rfl rfl rfl
 rintro θ R ⟨h19d, _⟩
 exact Opp.on (OG.imp (OD.move rfl rfl) (by rintro _ _ ⟨rfl, rfl⟩; exact ⟨[], rfl, trivial, (by first | exact left_all | rfl)⟩)) rfl rfl rfl
 rintro θ R ⟨h19d, h20d, h21d, h22d, _⟩
 exact Opp.on (OG.imp (OG.call [.agg #[.int .i64 (cr), v2], v4, v3] ent51 rfl rfl rfl rfl (by exact (innerOf_w hs11 (Ent.ints (i := 3) rfl) hs13 (Ent.ints (i := 5) rfl) hs12 (Ent.ints (i := 4) rfl) (hl0) (by first | omega | (rw [adF_len]; omega) | (simp; omega)) (by omega) ((Ent.drop 7 hg.app))))) (by rintro _ _ ⟨rfl, rfl⟩; exact ⟨[], rfl, trivial, (by first | exact left_all | rfl)⟩)) rfl rfl rfl
 rintro θ R ⟨h19d, h23d, _⟩
 exact Opp.on (OG.imp (OD.mulI rfl rfl rfl (by omega)) (by rintro _ _ ⟨rfl, rfl⟩; exact ⟨[], rfl, trivial, (by first | exact left_all | rfl)⟩)) rfl rfl rfl
 rintro θ R ⟨h19d, _⟩
 exact Opp.on (OG.imp (OD.move rfl rfl) (by rintro _ _ ⟨rfl, rfl⟩; exact ⟨[], rfl, trivial, (by first | exact left_all | rfl)⟩)) rfl rfl rfl
 rintro θ R ⟨h19d, _⟩
 exact Opp.on (OG.imp (OD.loadAgg rfl ti27 rfl (i := 2) rfl (us := [.int .i64 (cr), v2]) rfl rfl) (by rintro _ _ ⟨rfl, rfl⟩; exact ⟨[], rfl, trivial, (by first | exact left_all | rfl)⟩)) rfl rfl rfl
 rintro θ R ⟨h19d, _⟩
 exact Opp.on (OG.imp (OD.move rfl rfl) (by rintro _ _ ⟨rfl, rfl⟩; exact ⟨[], rfl, trivial, (by first | exact left_all | rfl)⟩)) rfl rfl rfl
 rintro θ R ⟨h19d, _⟩
 exact Opp.on (OG.imp (OD.move rfl rfl) (by rintro _ _ ⟨rfl, rfl⟩; exact ⟨[], rfl, trivial, (by first | exact left_all | rfl)⟩)) rfl rfl rfl
 rintro θ R ⟨h19d, h26d, h27d, h28d, _⟩
 exact Opp.on (OG.imp (OG.call [.agg #[.int .i64 (cr), v2], v3, v3] ent51 rfl rfl rfl rfl (by exact (innerOf_w hs11 (Ent.ints (i := 3) rfl) hs12 (Ent.ints (i := 4) rfl) hs12 (Ent.ints (i := 4) rfl) (hl0) (by first | omega | (rw [adF_len]; omega) | (simp; omega)) (by omega) ((Ent.drop 7 hg.app))))) (by rintro _ _ ⟨rfl, rfl⟩; exact ⟨[], rfl, trivial, (by first | exact left_all | rfl)⟩)) rfl rfl rfl
 rintro θ R ⟨h19d, h25d, h29d, _⟩
 exact Opp.on (OG.imp (OD.mulI rfl rfl rfl (by omega)) (by rintro _ _ ⟨rfl, rfl⟩; exact ⟨[], rfl, trivial, (by first | exact left_all | rfl)⟩)) rfl rfl rfl
 rintro θ R ⟨h19d, h24d, h30d, _⟩
 exact Opp.on (OG.imp (OD.eqv (OD.neq rfl rfl rfl) (congrArg Value.bool ((by rw [bne_eq_false_iff_eq]; exact hk1) : _ = false))) (by rintro _ _ ⟨rfl, rfl⟩; exact ⟨[], rfl, trivial, (by first | exact left_all | rfl)⟩)) rfl rfl rfl
 rintro θ R ⟨h19d, h31d, _⟩
 exact Opp.plain (OG.imp (OD.pickF rfl rfl rfl) (by rintro _ _ ⟨rfl, rfl⟩; exact ⟨[], rfl, trivial, (by first | exact left_all | rfl)⟩)) rfl
 intro θ hall
 obtain ⟨_, _, _, _, _, _, _, _, _, _, _, _, _, _, h14a, _, _, _, _, _, _, _, _, _, _, _, _, _, _, _, _, _, _, _⟩ := hall
 refine G.at [] 0 (env' := [(3, .pointer (some ⟨g20, 0, none⟩)), (4, v3), (5, v4), (6, v5), (8, .int .i64 (prOf cr cd u9 u8)), (64, .bool false)]) ⟨rfl, rfl, rfl, rfl, rfl, rfl, trivial⟩ (own' := ints 3 ((θ 14).getD 0 undef) (rbOf cr cd u8 (rbOf cr cd u8 u9)) :: ints 3 v21 (rbOf cr cd u8 u9) :: box g20 27 [.int .i64 (cr), v2] :: ints 3 v2 cd :: ints 3 v3 u8 :: ints 3 v4 u9 :: ints 3 v5 u10 :: own) rfl ?_
 have hs25 : IsS ((θ 14).getD 0 undef) := h14a
 clear h14a
 generalize ((θ 14).getD 0 undef) = v26 at *
 show G _ _ _ [] _ _ _ _
 refine G.nil (GE.then_ (GC.condF rfl (GC.skip (GE.then_ (GC.seq (GC.region ?_))))))
 refine G.stepD (OD.loadAgg rfl ti27 rfl (i := 2) rfl (us := [.int .i64 (cr), v2]) rfl rfl) rfl rfl rfl ?_
 refine G.stepD (OD.move rfl rfl) rfl rfl rfl ?_
 refine G.step (OG.call [.agg #[.int .i64 (cr), v2], v5] ent28 rfl rfl rfl rfl (by exact (weightOfT_w hs11 (Ent.ints (i := 3) rfl) hs14 (Ent.ints (i := 6) rfl) (hl0) (by first | omega | (rw [adF_len]; omega) | (simp; omega)) ((Ent.drop 7 hg))))) rfl rfl rfl ?_
 rintro v27 _ ⟨_, rfl, hs28, rfl⟩
 refine G.stepD (OD.assign rfl rfl) rfl rfl rfl ?_
 refine G.nil (GE.then_ (GC.seq (GC.region ?_)))
 refine G.stepD (OD.loadAgg rfl ti27 rfl (i := 3) rfl (us := [.int .i64 (cr), v2]) rfl rfl) rfl rfl rfl ?_
 refine G.stepD (OD.move rfl rfl) rfl rfl rfl ?_
 refine G.step (OG.call [.agg #[.int .i64 (cr), v2], v3] ent52 rfl rfl rfl rfl (by exact (corootOf_w hs11 (Ent.ints (i := 4) rfl) hs12 (Ent.ints (i := 5) rfl) (hl0) (by omega) (hL.all.1) ((Ent.drop 8 hg)) ((Ent.drop 8 htab))))) rfl rfl rfl ?_
 rintro v29 _ ⟨_, rfl, hs30, rfl⟩
 refine G.stepD (OD.assign rfl rfl) rfl rfl rfl ?_
 refine G.nil (GE.then_ (GC.seq (GC.region ?_)))
 refine G.stepD (OD.assign rfl rfl) rfl rfl rfl ?_
 refine G.nil (GE.then_ (GC.seq (GC.seq (GC.region ?_))))
 refine G.stepD (OD.assign rfl rfl) rfl rfl rfl ?_
 refine G.nil (GE.then_ (GC.block ?_))
 refine GC.loop (ι := Nat × Int) (fun ⟨i, a⟩ => [(3, .pointer (some ⟨g20, 0, none⟩)), (4, v3), (5, v4), (6, v5), (8, .int .i64 (prOf cr cd u9 u8)), (9, v27), (10, v29), (11, .int .i64 (a)), (12, .int .i64 ((i : Int)))]) (fun ⟨i, a⟩ => ints 3 v29 (crOf cr cd u8) :: ints 3 v27 (wtOf cr cd u10) :: ints 3 v26 (rbOf cr cd u8 (rbOf cr cd u8 u9)) :: ints 3 v21 (rbOf cr cd u8 u9) :: box g20 27 [.int .i64 (cr), v2] :: ints 3 v2 cd :: ints 3 v3 u8 :: ints 3 v4 u9 :: ints 3 v5 u10 :: own) (fun ⟨i, a⟩ => ((i : Int) ≤ cr) ∧ (a = dotN ((crOf cr cd u8).getD · 0) ((wtOf cr cd u10).getD · 0) i)) (fun ⟨i, a⟩ => cr.toNat - i) (0, 0) (⟨by omega, rfl⟩) ⟨rfl, rfl, rfl, rfl, rfl, rfl, rfl, rfl, rfl, trivial⟩ [] 0 rfl ?_
 rintro ⟨i, a⟩ ⟨hi, ha⟩
 refine GC.seq (GC.seq (GC.region ?_))
 refine G.stepD (OD.move rfl rfl) rfl rfl rfl ?_
 refine G.stepD (OD.fieldAddr rfl rfl fa27_0) rfl rfl rfl ?_
 refine G.stepD (OD.load rfl ti3 rfl (i := 4) rfl rfl) rfl rfl rfl ?_
 refine G.stepD (OD.lss rfl rfl rfl) rfl rfl rfl ?_
 refine G.nil (GE.then_ ?_)
 refine GC.cond rfl (fun hc31 => ?_) (fun hc31 => ?_)
 replace hc31 := of_decide_eq_true hc31
 have hcb := hL.cb i (by omega)
 have hpt := dotN_part (B := 360) (C := 12000) (by decide) (by decide) hL.cb (k := i) (by omega) (by omega)
 rw [← ha] at hpt
 have hmb : -(360 * 12000) ≤ (crOf cr cd u8).getD i 0 * (wtOf cr cd u10).getD i 0 ∧ (crOf cr cd u8).getD i 0 * (wtOf cr cd u10).getD i 0 ≤ 360 * 12000 := mul_abs hcb.1 hcb.2
 have hmb2 : -(360 * 12000) ≤ (crOf cr cd u8).getD ((i : Int)).toNat 0 * (wtOf cr cd u10).getD ((i : Int)).toNat 0 ∧ (crOf cr cd u8).getD ((i : Int)).toNat 0 * (wtOf cr cd u10).getD ((i : Int)).toNat 0 ≤ 360 * 12000 := hmb
 refine GC.skip (GE.then_ (GC.seq (GC.block ?_)))
 refine GC.at [] 0 (env' := [(3, .pointer (some ⟨g20, 0, none⟩)), (4, v3), (5, v4), (6, v5), (8, .int .i64 (prOf cr cd u9 u8)), (9, v27), (10, v29), (11, .int .i64 (a)), (12, .int .i64 ((i : Int)))]) ⟨rfl, rfl, rfl, rfl, rfl, rfl, rfl, rfl, rfl, trivial⟩ rfl ?_
 refine GC.par (its := [⟨77, [], [], [], [], fun _ => .int .i64 (a), fun _ => True, fun _ => []⟩,
     ⟨78, [], [], [], [], fun _ => v29, fun _ => True, fun _ => []⟩,
     ⟨79, [], [], [], [], fun _ => .int .i64 ((i : Int)), fun _ => True, fun _ => []⟩,
     ⟨80, [(1, 78), (2, 79)], [], [], [], fun _ => elemPtr v29 1 (i), fun _ => True, fun _ => []⟩,
     ⟨81, [(3, 80)], [], [], [], fun _ => .int .i64 ((crOf cr cd u8).getD (i) 0), fun _ => True, fun _ => []⟩,
     ⟨82, [], [], [], [], fun _ => v27, fun _ => True, fun _ => []⟩,
     ⟨83, [], [], [], [], fun _ => .int .i64 ((i : Int)), fun _ => True, fun _ => []⟩,
     ⟨84, [(5, 82), (6, 83)], [], [], [], fun _ => elemPtr v27 1 (i), fun _ => True, fun _ => []⟩,
     ⟨85, [(7, 84)], [], [], [], fun _ => .int .i64 ((wtOf cr cd u10).getD (i) 0), fun _ => True, fun _ => []⟩,
     ⟨86, [(4, 81), (8, 85)], [], [], [], fun _ => .int .i64 (((crOf cr cd u8).getD (i) 0) * ((wtOf cr cd u10).getD (i) 0)), fun _ => True, fun _ => []⟩,
     ⟨87, [(0, 77), (9, 86)], [], [], [], fun _ => .int .i64 (a + (((crOf cr cd u8).getD (i) 0) * ((wtOf cr cd u10).getD (i) 0))), fun _ => True, fun _ => []⟩]) (by kernel_rfl) (by kernel_rfl) (POps.cons ?_ (POps.cons ?_ (POps.cons ?_ (POps.cons ?_ (POps.cons ?_ (POps.cons ?_ (POps.cons ?_ (POps.cons ?_ (POps.cons ?_ (POps.cons ?_ (POps.cons ?_ POps.nil))))))))))) ?_
 intro θ R hd
 exact Opp.plain (OG.imp (OD.move rfl rfl) (by exact fun _ _ h=>pk h rfl trivial rfl)) rfl
 intro θ R hd
 exact Opp.plain (OG.imp (OD.move rfl rfl) (by exact fun _ _ h=>pk h rfl trivial rfl)) rfl
 intro θ R hd
 exact Opp.plain (OG.imp (OD.move rfl rfl) (by exact fun _ _ h=>pk h rfl trivial rfl)) rfl
 rintro θ R ⟨h1d, h2d, _⟩
 exact Opp.plain (OG.imp (OD.indexAddr rfl et22 rfl (Ent.ints (i := 0) rfl) rfl (by omega)) (by exact fun _ _ h=>pk h rfl trivial rfl)) rfl
 rintro θ R ⟨h3d, _⟩
 exact Opp.plain (OG.imp (OD.loadInt rfl ti3 rfl (Ent.ints (i := 0) rfl) (by omega)) (by exact fun _ _ h=>pk h rfl trivial rfl)) rfl
 intro θ R hd
 exact Opp.plain (OG.imp (OD.move rfl rfl) (by exact fun _ _ h=>pk h rfl trivial rfl)) rfl
 intro θ R hd
 exact Opp.plain (OG.imp (OD.move rfl rfl) (by exact fun _ _ h=>pk h rfl trivial rfl)) rfl
 rintro θ R ⟨h5d, h6d, _⟩
 exact Opp.plain (OG.imp (OD.indexAddr rfl et22 rfl (Ent.ints (i := 1) rfl) rfl (by omega)) (by exact fun _ _ h=>pk h rfl trivial rfl)) rfl
 rintro θ R ⟨h7d, _⟩
 exact Opp.plain (OG.imp (OD.loadInt rfl ti3 rfl (Ent.ints (i := 1) rfl) (by omega)) (by exact fun _ _ h=>pk h rfl trivial rfl)) rfl
 rintro θ R ⟨h4d, h8d, _⟩
 exact Opp.plain (OG.imp (OD.mulI rfl rfl rfl (by omega)) (by exact fun _ _ h=>pk h rfl trivial rfl)) rfl
 rintro θ R ⟨h0d, h9d, _⟩
 exact Opp.plain (OG.imp (OD.addI rfl rfl rfl (by omega)) (by exact fun _ _ h=>pk h rfl trivial rfl)) rfl
 intro θ hall
 obtain ⟨_, _, _, _, _, _, _, _, _, _, _, _⟩ := hall
 refine G.at [] 0 (env' := [(3, .pointer (some ⟨g20, 0, none⟩)), (4, v3), (5, v4), (6, v5), (8, .int .i64 (prOf cr cd u9 u8)), (9, v27), (10, v29), (11, .int .i64 (a)), (12, .int .i64 ((i : Int))), (87, .int .i64 (a + (((crOf cr cd u8).getD (i) 0) * ((wtOf cr cd u10).getD (i) 0))))]) ⟨rfl, rfl, rfl, rfl, rfl, rfl, rfl, rfl, rfl, rfl, trivial⟩ (own' := ints 3 v29 (crOf cr cd u8) :: ints 3 v27 (wtOf cr cd u10) :: ints 3 v26 (rbOf cr cd u8 (rbOf cr cd u8 u9)) :: ints 3 v21 (rbOf cr cd u8 u9) :: box g20 27 [.int .i64 (cr), v2] :: ints 3 v2 cd :: ints 3 v3 u8 :: ints 3 v4 u9 :: ints 3 v5 u10 :: own) rfl ?_
 show G _ _ _ [_] _ _ _ _
 refine G.stepD (OD.assign rfl rfl) rfl rfl rfl ?_
 refine G.nil (GE.blockN (GE.then_ (GC.region ?_)))
 refine G.stepD (OD.move rfl rfl) rfl rfl rfl ?_
 refine G.stepD (OD.addI rfl rfl rfl (by omega)) rfl rfl rfl ?_
 refine G.stepD (OD.assign rfl rfl) rfl rfl rfl ?_
 refine G.nil ?_
 exact GE.again (i + 1, (a + (((crOf cr cd u8).getD (i) 0) * ((wtOf cr cd u10).getD (i) 0)))) (⟨by omega, by rw [ha]; rfl⟩) (by first | omega | (dsimp only; omega)) ⟨rfl, rfl, rfl, rfl, rfl, rfl, rfl, rfl, rfl, trivial⟩ [] 0 rfl
 replace hc31 := of_decide_eq_false hc31
 have hie : i = cr.toNat := by omega
 have hco : a = prOf cr cd u10 u8 := by rw [ha, hie]; exact hL.co
 refine GC.exit (GE.pass (GE.pass (GE.hit (GE.then_ (GC.seq (GC.seq ?_))))))
 refine GC.at [] 0 (env' := [(3, .pointer (some ⟨g20, 0, none⟩)), (4, v3), (5, v4), (6, v5), (8, .int .i64 (prOf cr cd u9 u8)), (11, .int .i64 (a))]) ⟨rfl, rfl, rfl, rfl, rfl, rfl, trivial⟩ rfl ?_
 refine GC.par (its := [⟨88, [], [], [], [], fun _ => .int .i64 (a), fun _ => True, fun _ => []⟩,
     ⟨89, [], [], [], [], fun _ => .agg #[.int .i64 (cr), v2], fun _ => True, fun _ => []⟩,
     ⟨90, [], [], [], [], fun _ => v5, fun _ => True, fun _ => []⟩,
     ⟨91, [], [], [], [], fun _ => v3, fun _ => True, fun _ => []⟩,
     ⟨92, [(1, 89), (2, 90), (3, 91)], [], [], [], fun _ => .int .i64 (prOf cr cd u10 u8), fun _ => True, fun _ => []⟩,
     ⟨93, [(0, 88), (4, 92)], [], [], [], fun _ => .bool false, fun _ => True, fun _ => []⟩,
     ⟨94, [(5, 93)], [], [], [], fun _ => .bool false, fun _ => True, fun _ => []⟩,
     ⟨95, [(6, 94)], [], [], [], fun _ => .agg #[.int .i64 (cr), v2], fun _ => True, fun _ => []⟩,
     ⟨96, [(6, 94)], [], [], [], fun _ => v4, fun _ => True, fun _ => []⟩,
     ⟨97, [(6, 94)], [], [], [], fun _ => v5, fun _ => True, fun _ => []⟩,
     ⟨98, [(6, 94), (7, 95), (8, 96), (9, 97)], [], [], [], fun _ => .int .i64 (inOf cr cd u9 u10), fun _ => True, fun _ => []⟩,
     ⟨99, [(6, 94)], [], [], [], fun _ => .agg #[.int .i64 (cr), v2], fun _ => True, fun _ => []⟩,
     ⟨100, [(6, 94)], [], [], [], fun _ => v5, fun _ => True, fun _ => []⟩,
     ⟨101, [(6, 94)], [], [], [], fun _ => v4, fun _ => True, fun _ => []⟩,
     ⟨102, [(6, 94), (11, 99), (12, 100), (13, 101)], [], [], [], fun _ => .int .i64 (inOf cr cd u10 u9), fun _ => True, fun _ => []⟩,
     ⟨103, [(6, 94), (10, 98), (14, 102)], [], [], [], fun _ => .bool false, fun _ => True, fun _ => []⟩,
     ⟨104, [(6, 94), (15, 103)], [], [], [], fun _ => .bool false, fun _ => True, fun _ => []⟩,
     ⟨105, [(16, 104)], [], [], [], fun _ => .bool false, fun _ => True, fun _ => []⟩,
     ⟨106, [(17, 105)], [], [], [], fun _ => .agg #[.int .i64 (cr), v2], fun _ => True, fun _ => []⟩,
     ⟨107, [(17, 105)], [], [], [], fun _ => .agg #[.int .i64 (cr), v2], fun _ => True, fun _ => []⟩,
     ⟨108, [(17, 105)], [], [], [], fun _ => v3, fun _ => True, fun _ => []⟩,
     ⟨109, [(17, 105)], [], [], [], fun _ => v4, fun _ => True, fun _ => []⟩,
     ⟨110, [(17, 105), (19, 107), (20, 108), (21, 109)], [], [], [22], fun ds => ((ds.getD 0 []).getD 0 undef), fun ds => IsS ((ds.getD 0 []).getD 0 undef), fun ds => [ints 3 ((ds.getD 0 []).getD 0 undef) (rbOf cr cd u8 u9)]⟩,
     ⟨111, [(17, 105)], [], [], [], fun _ => .agg #[.int .i64 (cr), v2], fun _ => True, fun _ => []⟩,
     ⟨112, [(17, 105)], [], [], [], fun _ => v3, fun _ => True, fun _ => []⟩,
     ⟨113, [(17, 105)], [], [], [], fun _ => v5, fun _ => True, fun _ => []⟩,
     ⟨114, [(17, 105), (23, 111), (24, 112), (25, 113)], [], [], [26], fun ds => ((ds.getD 0 []).getD 0 undef), fun ds => IsS ((ds.getD 0 []).getD 0 undef), fun ds => [ints 3 ((ds.getD 0 []).getD 0 undef) (rbOf cr cd u8 u10)]⟩,
     ⟨115, [(17, 105), (18, 106), (22, 110), (26, 114)], [22, 26], [], [22, 26], fun _ => .int .i64 (inOf cr cd (rbOf cr cd u8 u9) (rbOf cr cd u8 u10)), fun _ => True, fun _ => []⟩,
     ⟨116, [(17, 105)], [], [], [], fun _ => .agg #[.int .i64 (cr), v2], fun _ => True, fun _ => []⟩,
     ⟨117, [(17, 105)], [], [], [], fun _ => v4, fun _ => True, fun _ => []⟩,
     ⟨118, [(17, 105)], [], [], [], fun _ => v5, fun _ => True, fun _ => []⟩,
     ⟨119, [(17, 105), (28, 116), (29, 117), (30, 118)], [], [], [], fun _ => .int .i64 (inOf cr cd u9 u10), fun _ => True, fun _ => []⟩,
     ⟨120, [(17, 105), (27, 115), (31, 119)], [22, 26], [], [22, 26], fun _ => .bool false, fun _ => True, fun _ => []⟩,
     ⟨121, [(17, 105), (32, 120)], [22, 26], [], [22, 26], fun _ => .bool false, fun _ => True, fun _ => []⟩]) (by kernel_rfl) (by kernel_rfl) (POps.cons ?_ (POps.cons ?_ (POps.cons ?_ (POps.cons ?_ (POps.cons ?_ (POps.cons ?_ (POps.cons ?_ (POps.cons ?_ (POps.cons ?_ (POps.cons ?_ (POps.cons ?_ (POps.cons ?_ (POps.cons ?_ (POps.cons ?_ (POps.cons ?_ (POps.cons ?_ (POps.cons ?_ (POps.cons ?_ (POps.cons ?_ (POps.cons ?_ (POps.cons ?_ (POps.cons ?_ (POps.cons ?_ (POps.cons ?_ (POps.cons ?_ (POps.cons ?_ (POps.cons ?_ (POps.cons ?_ (POps.cons ?_ (POps.cons ?_ (POps.cons ?_ (POps.cons ?_ (POps.cons ?_ (POps.cons ?_ POps.nil)))))))))))))))))))))))))))))))))) ?_
 intro θ R hd
 exact Opp.plain (OG.imp (OD.move rfl rfl) (by exact fun _ _ h=>pk h rfl trivial rfl)) rfl
 intro θ R hd
 exact Opp.plain (OG.imp (OD.loadAgg rfl ti27 rfl (i := 4) rfl (us := [.int .i64 (cr), v2]) rfl rfl) (by exact fun _ _ h=>pk h rfl trivial rfl)) rfl
 intro θ R hd
 exact Opp.plain (OG.imp (OD.move rfl rfl) (by exact fun _ _ h=>pk h rfl trivial rfl)) rfl
 intro θ R hd
 exact Opp.plain (OG.imp (OD.move rfl rfl) (by exact fun _ _ h=>pk h rfl trivial rfl)) rfl
 rintro θ R ⟨h1d, h2d, h3d, _⟩
 exact Opp.plain (OG.imp (OG.call [.agg #[.int .i64 (cr), v2], v5, v3] ent50 rfl rfl rfl rfl (by exact (pairOf_w hs11 (Ent.ints (i := 5) rfl) hs14 (Ent.ints (i := 8) rfl) hs12 (Ent.ints (i := 6) rfl) (hl0) (by omega) (by omega) (hL.all.1) ((Ent.drop 9 hg.app)) ((Ent.drop 9 htab.app))))) (by exact fun _ _ h=>pk h rfl trivial rfl)) rfl
 rintro θ R ⟨h0d, h4d, _⟩
 exact Opp.plain (OG.imp (OD.eqv (OD.neq rfl rfl rfl) (congrArg Value.bool ((by rw [bne_eq_false_iff_eq]; exact hco) : _ = false))) (by exact fun _ _ h=>pk h rfl trivial rfl)) rfl
 rintro θ R ⟨h5d, _⟩
 exact Opp.plain (OG.imp (OD.move rfl rfl) (by exact fun _ _ h=>pk h rfl trivial rfl)) rfl
 rintro θ R ⟨h6d, _⟩
 exact Opp.on (OG.imp (OD.loadAgg rfl ti27 rfl (i := 4) rfl (us := [.int .i64 (cr), v2]) rfl rfl) (by exact fun _ _ h=>pk h rfl trivial rfl)) rfl rfl rfl
 rintro θ R ⟨h6d, _⟩
 exact Opp.on (OG.imp (OD.move rfl rfl) (by exact fun _ _ h=>pk h rfl trivial rfl)) rfl rfl rfl
 rintro θ R ⟨h6d, _⟩
 exact Opp.on (OG.imp (OD.move rfl rfl) (by exact fun _ _ h=>pk h rfl trivial rfl)) rfl rfl rfl
 rintro θ R ⟨h6d, h7d, h8d, h9d, _⟩
 exact Opp.on (OG.imp (OG.call [.agg #[.int .i64 (cr), v2], v4, v5] ent51 rfl rfl rfl rfl (by exact (innerOf_w hs11 (Ent.ints (i := 5) rfl) hs13 (Ent.ints (i := 7) rfl) hs14 (Ent.ints (i := 8) rfl) (hl0) (by first | omega | (rw [adF_len]; omega) | (simp; omega)) (by omega) ((Ent.drop 9 hg.app))))) (by exact fun _ _ h=>pk h rfl trivial rfl)) rfl rfl rfl
 rintro θ R ⟨h6d, _⟩
 exact Opp.on (OG.imp (OD.loadAgg rfl ti27 rfl (i := 4) rfl (us := [.int .i64 (cr), v2]) rfl rfl) (by exact fun _ _ h=>pk h rfl trivial rfl)) rfl rfl rfl
 rintro θ R ⟨h6d, _⟩
 exact Opp.on (OG.imp (OD.move rfl rfl) (by exact fun _ _ h=>pk h rfl trivial rfl)) rfl rfl rfl
 rintro θ R ⟨h6d, _⟩
 exact Opp.on (OG.imp (OD.move rfl rfl) (by exact fun _ _ h=>pk h rfl trivial rfl)) rfl rfl rfl
 rintro θ R ⟨h6d, h11d, h12d, h13d, _⟩
 exact Opp.on (OG.imp (OG.call [.agg #[.int .i64 (cr), v2], v5, v4] ent51 rfl rfl rfl rfl (by exact (innerOf_w hs11 (Ent.ints (i := 5) rfl) hs14 (Ent.ints (i := 8) rfl) hs13 (Ent.ints (i := 7) rfl) (hl0) (by first | omega | (rw [adF_len]; omega) | (simp; omega)) (by omega) ((Ent.drop 9 hg.app))))) (by exact fun _ _ h=>pk h rfl trivial rfl)) rfl rfl rfl
 rintro θ R ⟨h6d, h10d, h14d, _⟩
 exact Opp.on (OG.imp (OD.eqv (OD.neq rfl rfl rfl) (congrArg Value.bool ((by rw [bne_eq_false_iff_eq]; exact hL.s1) : _ = false))) (by exact fun _ _ h=>pk h rfl trivial rfl)) rfl rfl rfl
 rintro θ R ⟨h6d, h15d, _⟩
 exact Opp.plain (OG.imp (OD.pickF rfl rfl rfl) (by exact fun _ _ h=>pk h rfl trivial rfl)) rfl
 rintro θ R ⟨h16d, _⟩
 exact Opp.plain (OG.imp (OD.move rfl rfl) (by exact fun _ _ h=>pk h rfl trivial rfl)) rfl
 rintro θ R ⟨h17d, _⟩
 exact Opp.on (OG.imp (OD.loadAgg rfl ti27 rfl (i := 4) rfl (us := [.int .i64 (cr), v2]) rfl rfl) (by exact fun _ _ h=>pk h rfl trivial rfl)) rfl rfl rfl
 rintro θ R ⟨h17d, _⟩
 exact Opp.on (OG.imp (OD.loadAgg rfl ti27 rfl (i := 4) rfl (us := [.int .i64 (cr), v2]) rfl rfl) (by exact fun _ _ h=>pk h rfl trivial rfl)) rfl rfl rfl
 rintro θ R ⟨h17d, _⟩
 exact Opp.on (OG.imp (OD.move rfl rfl) (by exact fun _ _ h=>pk h rfl trivial rfl)) rfl rfl rfl
 rintro θ R ⟨h17d, _⟩
 exact Opp.on (OG.imp (OD.move rfl rfl) (by exact fun _ _ h=>pk h rfl trivial rfl)) rfl rfl rfl
 rintro θ R ⟨h17d, h19d, h20d, h21d, _⟩
 exact Opp.on (OG.imp (OG.call [.agg #[.int .i64 (cr), v2], v3, v4] ent49 rfl rfl rfl rfl (by exact (reflectBy_w hs11 (Ent.ints (i := 5) rfl) hs12 (Ent.ints (i := 6) rfl) hs13 (Ent.ints (i := 7) rfl) (hl0) (by omega) (by omega) (hL.all.1) ((Ent.drop 9 hg.app)) ((Ent.drop 9 htab.app))))) (by rintro v32 _ ⟨_, rfl, hs33, rfl⟩; exact ⟨[v32], rfl, hs33, rfl⟩)) rfl rfl rfl
 rintro θ R ⟨h17d, _⟩
 exact Opp.on (OG.imp (OD.loadAgg rfl ti27 rfl (i := 4) rfl (us := [.int .i64 (cr), v2]) rfl rfl) (by exact fun _ _ h=>pk h rfl trivial rfl)) rfl rfl rfl
 rintro θ R ⟨h17d, _⟩
 exact Opp.on (OG.imp (OD.move rfl rfl) (by exact fun _ _ h=>pk h rfl trivial rfl)) rfl rfl rfl
 rintro θ R ⟨h17d, _⟩
 exact Opp.on (OG.imp (OD.move rfl rfl) (by exact fun _ _ h=>pk h rfl trivial rfl)) rfl rfl rfl
 rintro θ R ⟨h17d, h23d, h24d, h25d, _⟩
 exact Opp.on (OG.imp (OG.call [.agg #[.int .i64 (cr), v2], v3, v5] ent49 rfl rfl rfl rfl (by exact (reflectBy_w hs11 (Ent.ints (i := 5) rfl) hs12 (Ent.ints (i := 6) rfl) hs14 (Ent.ints (i := 8) rfl) (hl0) (by omega) (by omega) (hL.all.1) ((Ent.drop 9 hg.app)) ((Ent.drop 9 htab.app))))) (by rintro v34 _ ⟨_, rfl, hs35, rfl⟩; exact ⟨[v34], rfl, hs35, rfl⟩)) rfl rfl rfl
 rintro θ R ⟨h17d, h18d, h22d, h26d, _⟩
 exact Opp.on (OG.imp (OG.call [.agg #[.int .i64 (cr), v2], ((θ 22).getD 0 undef), ((θ 26).getD 0 undef)] ent51 rfl rfl rfl rfl (by exact (innerOf_w hs11 (Ent.ints (i := 7) rfl) h22d (Ent.ints (i := 0) rfl) h26d (Ent.ints (i := 1) rfl) (hl0) (by first | omega | (rw [adF_len]; omega) | (simp; omega)) (by omega) ((Ent.drop 11 hg.app))))) (by rintro _ _ ⟨rfl, rfl⟩; exact ⟨[], rfl, trivial, (by first | exact left_all | rfl)⟩)) rfl rfl rfl
 rintro θ R ⟨h17d, _⟩
 exact Opp.on (OG.imp (OD.loadAgg rfl ti27 rfl (i := 4) rfl (us := [.int .i64 (cr), v2]) rfl rfl) (by exact fun _ _ h=>pk h rfl trivial rfl)) rfl rfl rfl
 rintro θ R ⟨h17d, _⟩
 exact Opp.on (OG.imp (OD.move rfl rfl) (by exact fun _ _ h=>pk h rfl trivial rfl)) rfl rfl rfl
 rintro θ R ⟨h17d, _⟩
 exact Opp.on (OG.imp (OD.move rfl rfl) (by exact fun _ _ h=>pk h rfl trivial rfl)) rfl rfl rfl
 rintro θ R ⟨h17d, h28d, h29d, h30d, _⟩
 exact Opp.on (OG.imp (OG.call [.agg #[.int .i64 (cr), v2], v4, v5] ent51 rfl rfl rfl rfl (by exact (innerOf_w hs11 (Ent.ints (i := 5) rfl) hs13 (Ent.ints (i := 7) rfl) hs14 (Ent.ints (i := 8) rfl) (hl0) (by first | omega | (rw [adF_len]; omega) | (simp; omega)) (by omega) ((Ent.drop 9 hg.app))))) (by exact fun _ _ h=>pk h rfl trivial rfl)) rfl rfl rfl
 rintro θ R ⟨h17d, h27d, h31d, _⟩
 exact Opp.on (OG.imp (OD.eqv (OD.neq rfl rfl rfl) (congrArg Value.bool ((by rw [bne_eq_false_iff_eq]; exact hL.s2) : _ = false))) (by rintro _ _ ⟨rfl, rfl⟩; exact ⟨[], rfl, trivial, (by first | exact left_all | rfl)⟩)) rfl rfl rfl
 rintro θ R ⟨h17d, h32d, _⟩
 exact Opp.plain (OG.imp (OD.pickF rfl rfl rfl) (by rintro _ _ ⟨rfl, rfl⟩; exact ⟨[], rfl, trivial, (by first | exact left_all | rfl)⟩)) rfl
 intro θ hall
 obtain ⟨_, _, _, _, _, _, _, _, _, _, _, _, _, _, _, _, _, _, _, _, _, _, h22a, _, _, _, h26a, _, _, _, _, _, _, _, _⟩ := hall
 refine G.at [] 0 (env' := [(3, .pointer (some ⟨g20, 0, none⟩)), (4, v3), (5, v4), (8, .int .i64 (prOf cr cd u9 u8)), (121, .bool false)]) ⟨rfl, rfl, rfl, rfl, rfl, trivial⟩ (own' := ints 3 ((θ 22).getD 0 undef) (rbOf cr cd u8 u9) :: ints 3 ((θ 26).getD 0 undef) (rbOf cr cd u8 u10) :: ints 3 v29 (crOf cr cd u8) :: ints 3 v27 (wtOf cr cd u10) :: ints 3 v26 (rbOf cr cd u8 (rbOf cr cd u8 u9)) :: ints 3 v21 (rbOf cr cd u8 u9) :: box g20 27 [.int .i64 (cr), v2] :: ints 3 v2 cd :: ints 3 v3 u8 :: ints 3 v4 u9 :: ints 3 v5 u10 :: own) rfl ?_
 have hs36 : IsS ((θ 22).getD 0 undef) := h22a
 clear h22a
 generalize ((θ 22).getD 0 undef) = v37 at *
 have hs38 : IsS ((θ 26).getD 0 undef) := h26a
 clear h26a
 generalize ((θ 26).getD 0 undef) = v39 at *
 show G _ _ _ [] _ _ _ _
 refine G.nil (GE.then_ (GC.condF rfl (GC.skip (GE.then_ (GC.seq (GC.region ?_))))))
 refine G.stepD (OD.loadAgg rfl ti27 rfl (i := 6) rfl (us := [.int .i64 (cr), v2]) rfl rfl) rfl rfl rfl ?_
 refine G.stepD (OD.move rfl rfl) rfl rfl rfl ?_
 refine G.stepD (OD.move rfl rfl) rfl rfl rfl ?_
 refine G.step (OG.call [.agg #[.int .i64 (cr), v2], v3, v4] ent53 rfl rfl rfl rfl (by exact (rootString_w hs11 (Ent.ints (i := 7) rfl) hs12 (Ent.ints (i := 8) rfl) hs13 (Ent.ints (i := 9) rfl) (hl0) (by omega) (by omega) (hL.all.2.1) (hL.all.1) ((Ent.drop 11 hg)) ((Ent.drop 11 htab))))) rfl rfl rfl ?_
 rintro _ _ ⟨rfl, rfl⟩
 refine G.stepD (OD.move rfl rfl) rfl rfl rfl ?_
 refine G.stepD (OD.extract rfl rfl rfl) rfl rfl rfl ?_
 refine G.stepD (OD.extract rfl rfl rfl) rfl rfl rfl ?_
 refine G.stepD (OD.assign rfl rfl) rfl rfl rfl ?_
 refine G.stepD (OD.assign rfl rfl) rfl rfl rfl ?_
 refine G.nil (GE.then_ (GC.seq (GC.seq ?_)))
 rcases Bool.eq_false_or_eq_true (samB u9 u8) with hg40 | hg40
 refine GC.at [] 0 (env' := [(3, .pointer (some ⟨g20, 0, none⟩)), (4, v3), (5, v4), (8, .int .i64 (prOf cr cd u9 u8)), (13, .int .i64 (rsA cr cd u8 u9 (-1))), (14, .int .i64 (rsA cr cd u8 u9 1))]) ⟨rfl, rfl, rfl, rfl, rfl, rfl, trivial⟩ rfl ?_
 refine GC.par (its := [⟨129, [], [], [], [], fun _ => v4, fun _ => True, fun _ => []⟩,
     ⟨130, [], [], [], [], fun _ => v3, fun _ => True, fun _ => []⟩,
     ⟨131, [(0, 129), (1, 130)], [], [], [], fun _ => .bool true, fun _ => True, fun _ => []⟩,
     ⟨132, [(2, 131)], [], [], [], fun _ => .bool true, fun _ => True, fun _ => []⟩,
     ⟨133, [(3, 132)], [], [], [], fun _ => undef, fun _ => True, fun _ => []⟩,
     ⟨134, [(3, 132)], [], [], [], fun _ => undef, fun _ => True, fun _ => []⟩,
     ⟨135, [(3, 132), (4, 133), (5, 134)], [], [], [], fun _ => undef, fun _ => True, fun _ => []⟩,
     ⟨136, [(3, 132)], [], [], [], fun _ => undef, fun _ => True, fun _ => []⟩,
     ⟨137, [(3, 132), (7, 136)], [], [], [], fun _ => undef, fun _ => True, fun _ => []⟩,
     ⟨138, [(3, 132), (8, 137)], [], [], [], fun _ => undef, fun _ => True, fun _ => []⟩,
     ⟨139, [(3, 132), (6, 135), (9, 138)], [], [], [], fun _ => undef, fun _ => True, fun _ => []⟩,
     ⟨140, [(3, 132), (10, 139)], [], [], [], fun _ => .bool true, fun _ => True, fun _ => []⟩]) (by kernel_rfl) (by kernel_rfl) (POps.cons ?_ (POps.cons ?_ (POps.cons ?_ (POps.cons ?_ (POps.cons ?_ (POps.cons ?_ (POps.cons ?_ (POps.cons ?_ (POps.cons ?_ (POps.cons ?_ (POps.cons ?_ (POps.cons ?_ POps.nil)))))))))))) ?_
 intro θ R hd
 exact Opp.plain (OG.imp (OD.move rfl rfl) (by exact fun _ _ h=>pk h rfl trivial rfl)) rfl
 intro θ R hd
 exact Opp.plain (OG.imp (OD.move rfl rfl) (by exact fun _ _ h=>pk h rfl trivial rfl)) rfl
 rintro θ R ⟨h0d, h1d, _⟩
 exact Opp.plain (OG.imp (OG.imp (K' := fun v ow => v = .bool true ∧ ow = ints 3 v37 (rbOf cr cd u8 u9) :: ints 3 v39 (rbOf cr cd u8 u10) :: ints 3 v29 (crOf cr cd u8) :: ints 3 v27 (wtOf cr cd u10) :: ints 3 v26 (rbOf cr cd u8 (rbOf cr cd u8 u9)) :: ints 3 v21 (rbOf cr cd u8 u9) :: box g20 27 [.int .i64 (cr), v2] :: ints 3 v2 cd :: ints 3 v3 u8 :: ints 3 v4 u9 :: ints 3 v5 u10 :: own ++ R) (OG.call [v4, v3] ent25 rfl rfl rfl rfl (by exact (lawsInts_s hs13 (Ent.ints (i := 9) rfl) hs12 (Ent.ints (i := 8) rfl) (by first | omega | (rw [adF_len]; omega) | (simp; omega))))) (by rintro _ _ ⟨rfl, rfl⟩; exact ⟨congrArg Value.bool (hg40), rfl⟩)) (by exact fun _ _ h=>pk h rfl trivial rfl)) rfl
 rintro θ R ⟨h2d, _⟩
 exact Opp.plain (OG.imp (OD.move rfl rfl) (by exact fun _ _ h=>pk h rfl trivial rfl)) rfl
 rintro θ R ⟨h3d, _⟩
 exact Opp.off ⟨[], rfl, trivial, rfl⟩ rfl rfl rfl rfl
 rintro θ R ⟨h3d, _⟩
 exact Opp.off ⟨[], rfl, trivial, rfl⟩ rfl rfl rfl rfl
 rintro θ R ⟨h3d, h4d, h5d, _⟩
 exact Opp.off ⟨[], rfl, trivial, rfl⟩ rfl rfl rfl rfl
 rintro θ R ⟨h3d, _⟩
 exact Opp.off ⟨[], rfl, trivial, rfl⟩ rfl rfl rfl rfl
 rintro θ R ⟨h3d, h7d, _⟩
 exact Opp.off ⟨[], rfl, trivial, rfl⟩ rfl rfl rfl rfl
 rintro θ R ⟨h3d, h8d, _⟩
 exact Opp.off ⟨[], rfl, trivial, rfl⟩ rfl rfl rfl rfl
 rintro θ R ⟨h3d, h6d, h9d, _⟩
 exact Opp.off ⟨[], rfl, trivial, rfl⟩ rfl rfl rfl rfl
 rintro θ R ⟨h3d, h10d, _⟩
 exact Opp.plain (OG.imp (OD.pickT rfl rfl rfl) (by exact fun _ _ h=>pk h rfl trivial rfl)) rfl
 intro θ hall
 obtain ⟨_, _, _, _, _, _, _, _, _, _, _, _, _⟩ := hall
 refine G.at [] 0 (env' := [(8, .int .i64 (prOf cr cd u9 u8)), (13, .int .i64 (rsA cr cd u8 u9 (-1))), (14, .int .i64 (rsA cr cd u8 u9 1)), (140, .bool true)]) ⟨rfl, rfl, rfl, rfl, trivial⟩ (own' := ints 3 v37 (rbOf cr cd u8 u9) :: ints 3 v39 (rbOf cr cd u8 u10) :: ints 3 v29 (crOf cr cd u8) :: ints 3 v27 (wtOf cr cd u10) :: ints 3 v26 (rbOf cr cd u8 (rbOf cr cd u8 u9)) :: ints 3 v21 (rbOf cr cd u8 u9) :: box g20 27 [.int .i64 (cr), v2] :: ints 3 v2 cd :: ints 3 v3 u8 :: ints 3 v4 u9 :: ints 3 v5 u10 :: own) rfl ?_
 show G _ _ _ [] _ _ _ _
 refine G.nil (GE.then_ (GC.condT rfl (GC.seq ?_)))
 have hsm : u9 = u8 ∨ u9 = mnF u8 := by first | exact Or.inl (samB_true (by assumption)) | exact Or.inr (hL.near (by assumption))
 refine GC.region ?_
 refine G.stepD (OD.move rfl rfl) rfl rfl rfl ?_
 refine G.stepD (OD.eqv (OD.eql rfl rfl rfl) (congrArg Value.bool ((beq_iff_eq.2 (hL.same hsm).1) : _ = true))) rfl rfl rfl ?_
 refine G.stepD (OD.move rfl rfl) rfl rfl rfl ?_
 refine G.stepGD (OD.move rfl rfl) rfl rfl rfl rfl rfl ?_
 refine G.stepGD (OD.eqv (OD.eql rfl rfl rfl) (congrArg Value.bool ((beq_iff_eq.2 (hL.same hsm).2) : _ = true))) rfl rfl rfl rfl rfl ?_
 refine G.stepD (OD.pickT rfl rfl rfl) rfl rfl rfl ?_
 refine G.stepD (OD.assign rfl rfl) rfl rfl rfl ?_
 refine G.nil (GE.then_ (GC.ret (GE.passR ?_)))
 exact GE.body [] 11 (res1 rfl rfl) rfl (⟨rfl, rfl⟩)
 refine GC.at [] 0 (env' := [(3, .pointer (some ⟨g20, 0, none⟩)), (4, v3), (5, v4), (8, .int .i64 (prOf cr cd u9 u8)), (13, .int .i64 (rsA cr cd u8 u9 (-1))), (14, .int .i64 (rsA cr cd u8 u9 1))]) ⟨rfl, rfl, rfl, rfl, rfl, rfl, trivial⟩ rfl ?_
 refine GC.par (its := [⟨129, [], [], [], [], fun _ => v4, fun _ => True, fun _ => []⟩,
     ⟨130, [], [], [], [], fun _ => v3, fun _ => True, fun _ => []⟩,
     ⟨131, [(0, 129), (1, 130)], [], [], [], fun _ => .bool false, fun _ => True, fun _ => []⟩,
     ⟨132, [(2, 131)], [], [], [], fun _ => .bool false, fun _ => True, fun _ => []⟩,
     ⟨133, [(3, 132)], [], [], [], fun _ => v4, fun _ => True, fun _ => []⟩,
     ⟨134, [(3, 132)], [], [], [], fun _ => v3, fun _ => True, fun _ => []⟩,
     ⟨135, [(3, 132), (4, 133), (5, 134)], [], [], [6], fun ds => ((ds.getD 0 []).getD 0 undef), fun ds => IsS ((ds.getD 0 []).getD 0 undef), fun ds => [ints 3 ((ds.getD 0 []).getD 0 undef) (adF u9 u8)]⟩,
     ⟨136, [(3, 132)], [], [], [], fun _ => .pointer (some ⟨g20, 0, none⟩), fun _ => True, fun _ => []⟩,
     ⟨137, [(3, 132), (7, 136)], [], [], [], fun _ => .int .i64 (cr), fun _ => True, fun _ => []⟩,
     ⟨138, [(3, 132), (8, 137)], [], [], [9], fun ds => ((ds.getD 0 []).getD 0 undef), fun ds => IsS ((ds.getD 0 []).getD 0 undef), fun ds => [ints 3 ((ds.getD 0 []).getD 0 undef) (List.replicate (cr : Int).toNat (0 : Int))]⟩,
     ⟨139, [(3, 132), (6, 135), (9, 138)], [6, 9], [], [6, 9], fun _ => .bool (samB (adF u9 u8) (List.replicate (cr : Int).toNat (0 : Int))), fun _ => True, fun _ => []⟩,
     ⟨140, [(3, 132), (10, 139)], [6, 9], [], [6, 9], fun _ => .bool (samB (adF u9 u8) (List.replicate (cr : Int).toNat (0 : Int))), fun _ => True, fun _ => []⟩]) (by kernel_rfl) (by kernel_rfl) (POps.cons ?_ (POps.cons ?_ (POps.cons ?_ (POps.cons ?_ (POps.cons ?_ (POps.cons ?_ (POps.cons ?_ (POps.cons ?_ (POps.cons ?_ (POps.cons ?_ (POps.cons ?_ (POps.cons ?_ POps.nil)))))))))))) ?_
 intro θ R hd
 exact Opp.plain (OG.imp (OD.move rfl rfl) (by exact fun _ _ h=>pk h rfl trivial rfl)) rfl
 intro θ R hd
 exact Opp.plain (OG.imp (OD.move rfl rfl) (by exact fun _ _ h=>pk h rfl trivial rfl)) rfl
 rintro θ R ⟨h0d, h1d, _⟩
 exact Opp.plain (OG.imp (OG.imp (K' := fun v ow => v = .bool false ∧ ow = ints 3 v37 (rbOf cr cd u8 u9) :: ints 3 v39 (rbOf cr cd u8 u10) :: ints 3 v29 (crOf cr cd u8) :: ints 3 v27 (wtOf cr cd u10) :: ints 3 v26 (rbOf cr cd u8 (rbOf cr cd u8 u9)) :: ints 3 v21 (rbOf cr cd u8 u9) :: box g20 27 [.int .i64 (cr), v2] :: ints 3 v2 cd :: ints 3 v3 u8 :: ints 3 v4 u9 :: ints 3 v5 u10 :: own ++ R) (OG.call [v4, v3] ent25 rfl rfl rfl rfl (by exact (lawsInts_s hs13 (Ent.ints (i := 9) rfl) hs12 (Ent.ints (i := 8) rfl) (by first | omega | (rw [adF_len]; omega) | (simp; omega))))) (by rintro _ _ ⟨rfl, rfl⟩; exact ⟨congrArg Value.bool (hg40), rfl⟩)) (by exact fun _ _ h=>pk h rfl trivial rfl)) rfl
 rintro θ R ⟨h2d, _⟩
 exact Opp.plain (OG.imp (OD.move rfl rfl) (by exact fun _ _ h=>pk h rfl trivial rfl)) rfl
 rintro θ R ⟨h3d, _⟩
 exact Opp.on (OG.imp (OD.move rfl rfl) (by exact fun _ _ h=>pk h rfl trivial rfl)) rfl rfl rfl
 rintro θ R ⟨h3d, _⟩
 exact Opp.on (OG.imp (OD.move rfl rfl) (by exact fun _ _ h=>pk h rfl trivial rfl)) rfl rfl rfl
 rintro θ R ⟨h3d, h4d, h5d, _⟩
 exact Opp.on (OG.imp (OG.call [v4, v3] ent54 rfl rfl rfl rfl (by exact (sum2_w hs13 (Ent.ints (i := 9) rfl) hs12 (Ent.ints (i := 8) rfl) (by first | omega | (rw [adF_len]; omega) | (simp; omega)) (by omega)))) (by rintro v41 _ ⟨_, rfl, hs42, rfl⟩; exact ⟨[v41], rfl, hs42, rfl⟩)) rfl rfl rfl
 rintro θ R ⟨h3d, _⟩
 exact Opp.on (OG.imp (OD.fieldAddr rfl rfl fa27_0) (by exact fun _ _ h=>pk h rfl trivial rfl)) rfl rfl rfl
 rintro θ R ⟨h3d, h7d, _⟩
 exact Opp.on (OG.imp (OD.load rfl ti3 rfl (i := 6) rfl rfl) (by exact fun _ _ h=>pk h rfl trivial rfl)) rfl rfl rfl
 rintro θ R ⟨h3d, h8d, _⟩
 exact Opp.on (OG.imp (OG.makeInts rfl et22 rfl rfl (by omega)) (by rintro v43 _ ⟨hs44, rfl⟩; exact ⟨[v43], rfl, hs44, rfl⟩)) rfl rfl rfl
 rintro θ R ⟨h3d, h6d, h9d, _⟩
 exact Opp.on (OG.imp (OG.call [((θ 6).getD 0 undef), ((θ 9).getD 0 undef)] ent25 rfl rfl rfl rfl (by exact (lawsInts_s h6d (Ent.ints (i := 0) rfl) h9d (Ent.ints (i := 1) rfl) (by first | omega | (rw [adF_len]; omega) | (simp; omega))))) (by rintro _ _ ⟨rfl, rfl⟩; exact ⟨[], rfl, trivial, (by first | exact left_all | rfl)⟩)) rfl rfl rfl
 rintro θ R ⟨h3d, h10d, _⟩
 exact Opp.plain (OG.imp (OD.pickF rfl rfl rfl) (by rintro _ _ ⟨rfl, rfl⟩; exact ⟨[], rfl, trivial, (by first | exact left_all | rfl)⟩)) rfl
 intro θ hall
 obtain ⟨_, _, _, _, _, _, h6a, _, _, h9a, _, _, _⟩ := hall
 refine G.at [] 0 (env' := [(8, .int .i64 (prOf cr cd u9 u8)), (13, .int .i64 (rsA cr cd u8 u9 (-1))), (14, .int .i64 (rsA cr cd u8 u9 1)), (140, .bool (samB (adF u9 u8) (List.replicate (cr : Int).toNat (0 : Int))))]) ⟨rfl, rfl, rfl, rfl, trivial⟩ (own' := ints 3 ((θ 6).getD 0 undef) (adF u9 u8) :: ints 3 ((θ 9).getD 0 undef) (List.replicate (cr : Int).toNat (0 : Int)) :: ints 3 v37 (rbOf cr cd u8 u9) :: ints 3 v39 (rbOf cr cd u8 u10) :: ints 3 v29 (crOf cr cd u8) :: ints 3 v27 (wtOf cr cd u10) :: ints 3 v26 (rbOf cr cd u8 (rbOf cr cd u8 u9)) :: ints 3 v21 (rbOf cr cd u8 u9) :: box g20 27 [.int .i64 (cr), v2] :: ints 3 v2 cd :: ints 3 v3 u8 :: ints 3 v4 u9 :: ints 3 v5 u10 :: own) rfl ?_
 have hs45 : IsS ((θ 6).getD 0 undef) := h6a
 clear h6a
 generalize ((θ 6).getD 0 undef) = v46 at *
 have hs47 : IsS ((θ 9).getD 0 undef) := h9a
 clear h9a
 generalize ((θ 9).getD 0 undef) = v48 at *
 show G _ _ _ [] _ _ _ _
 refine G.nil (GE.then_ ?_)
 refine GC.cond rfl (fun hc49 => ?_) (fun hc49 => ?_)
 refine GC.seq ?_
 have hsm : u9 = u8 ∨ u9 = mnF u8 := by first | exact Or.inl (samB_true (by assumption)) | exact Or.inr (hL.near (by assumption))
 refine GC.region ?_
 refine G.stepD (OD.move rfl rfl) rfl rfl rfl ?_
 refine G.stepD (OD.eqv (OD.eql rfl rfl rfl) (congrArg Value.bool ((beq_iff_eq.2 (hL.same hsm).1) : _ = true))) rfl rfl rfl ?_
 refine G.stepD (OD.move rfl rfl) rfl rfl rfl ?_
 refine G.stepGD (OD.move rfl rfl) rfl rfl rfl rfl rfl ?_
 refine G.stepGD (OD.eqv (OD.eql rfl rfl rfl) (congrArg Value.bool ((beq_iff_eq.2 (hL.same hsm).2) : _ = true))) rfl rfl rfl rfl rfl ?_
 refine G.stepD (OD.pickT rfl rfl rfl) rfl rfl rfl ?_
 refine G.stepD (OD.assign rfl rfl) rfl rfl rfl ?_
 refine G.nil (GE.then_ (GC.ret (GE.passR ?_)))
 exact GE.body [] 13 (res1 rfl rfl) rfl (⟨rfl, rfl⟩)
 refine GC.skip (GE.then_ (GC.seq ?_))
 have hf1 : u9 ≠ u8 := samB_ne (by assumption)
 have hf2 : u9 ≠ mnF u8 := hL.far (by assumption)
 obtain ⟨ht1, ht2, ht3, ht4⟩ := hL.str hf1 hf2
 refine GC.region ?_
 refine G.stepD (OD.move rfl rfl) rfl rfl rfl ?_
 refine G.stepD (OD.move rfl rfl) rfl rfl rfl ?_
 refine G.stepD (OD.subI rfl rfl rfl (by first | omega | (simp only [List.length_set, List.length_replicate]; omega))) rfl rfl rfl ?_
 refine G.stepD (OD.move rfl rfl) rfl rfl rfl ?_
 refine G.stepD (OD.eqv (OD.eql rfl rfl rfl) (congrArg Value.bool ((beq_iff_eq.2 ht1) : _ = true))) rfl rfl rfl ?_
 refine G.stepD (OD.move rfl rfl) rfl rfl rfl ?_
 refine G.stepGD (OD.move rfl rfl) rfl rfl rfl rfl rfl ?_
 refine G.stepGD (OD.move rfl rfl) rfl rfl rfl rfl rfl ?_
 refine G.stepGD (OD.addI rfl rfl rfl (by first | omega | (simp only [List.length_set, List.length_replicate]; omega))) rfl rfl rfl rfl rfl ?_
 refine G.stepGD (OD.eqv (OD.leq rfl rfl rfl) (congrArg Value.bool ((decide_eq_true ht2) : _ = true))) rfl rfl rfl rfl rfl ?_
 refine G.stepD (OD.pickT rfl rfl rfl) rfl rfl rfl ?_
 refine G.stepD (OD.assign rfl rfl) rfl rfl rfl ?_
 refine G.nil (GE.then_ (GC.ret ?_))
 exact GE.body [] 13 (res1 rfl rfl) rfl (⟨rfl, rfl⟩)
end Go.Proofs.YtgelkakjmbiibaaGreatDoor
