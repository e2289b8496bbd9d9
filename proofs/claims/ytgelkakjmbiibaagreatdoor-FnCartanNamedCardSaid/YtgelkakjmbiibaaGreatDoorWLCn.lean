/-
  The law on types that are found again.
-/
import Derived.Test.YtgelkakjmbiibaaGreatDoorFct
import Derived.Test.YtgelkakjmbiibaaGreatDoorWTyp
import Derived.Test.YtgelkakjmbiibaaGreatDoorWLof
import Derived.Test.YtgelkakjmbiibaaGreatDoorZ01
import Derived.Test.YtgelkakjmbiibaaGreatDoorZ09
namespace Go.Proofs.YtgelkakjmbiibaaGreatDoor
set_option linter.unusedVariables false
set_option linter.unusedSimpArgs false
open Go.RowKit
theorem ent19 : ∀ us w, (callFunc 19 us).run Tryz.prog w = .ok (.enter 19 us) w := fun us w => by kernel_rfl
theorem ent35 : ∀ us w, (callFunc 35 us).run Tryz.prog w = .ok (.enter 35 us) w := fun us w => by kernel_rfl
theorem ent38 : ∀ us w, (callFunc 38 us).run Tryz.prog w = .ok (.enter 38 us) w := fun us w => by kernel_rfl
theorem ent45 : ∀ us w, (callFunc 45 us).run Tryz.prog w = .ok (.enter 45 us) w := fun us w => by kernel_rfl
theorem ent46 : ∀ us w, (callFunc 46 us).run Tryz.prog w = .ok (.enter 46 us) w := fun us w => by kernel_rfl
set_option maxHeartbeats 4000000 in
set_option maxRecDepth 100000 in
theorem lawCartanNamed {W : World} {own : List Asn} {vcode : Value} {code : List Int}  (scode : IsS vcode) (ecode : Ent own fun w => Byts w vcode code)  (hl : code.length ≤ 9223372036854775807) (hg : Ent own fun w => ∃ m, w.cell? ⟨Tryz.l146_ren.g 1, 0, none⟩ = some (.int .i64 m)) (htab : Ent own Pow10) : Spec Tryz.prog 9 [vcode] W own (fun v ow => v = .bool (true) ∧ ow = own) := by
 refine Spec.enter Tryz.f9 _ Tryz.func9 rfl (n := 125) rfl rfl ?_
 refine GC.seq (GC.region ?_)
 refine G.stepD (OD.assign rfl rfl) rfl rfl rfl ?_
 refine G.nil (GE.then_ (GC.seq (GC.seq (GC.region ?_))))
 refine G.stepD (OD.move rfl rfl) rfl rfl rfl ?_
 refine G.step (OG.call [vcode] ent19 rfl rfl rfl rfl (by exact (big_w scode ecode (by omega)))) rfl rfl rfl ?_
 rintro _ _ ⟨rfl, hzz⟩; obtain rfl := hzz.symm
 refine G.nil (GE.then_ ?_)
 refine GC.cond rfl (fun hc1 => ?_) (fun hc1 => ?_)
 replace hc1 := of_decide_eq_true hc1
 refine GC.seq (GC.region ?_)
 refine G.stepD (OD.assign rfl rfl) rfl rfl rfl ?_
 refine G.nil (GE.then_ (GC.ret (GE.passR ?_)))
 exact GE.body [] 0 (res1 rfl rfl) rfl (⟨rfl, rfl⟩)
 replace hc1 := of_decide_eq_false hc1
 refine GC.skip (GE.then_ (GC.seq (GC.region ?_)))
 refine G.stepD (OD.move rfl rfl) rfl rfl rfl ?_
 refine G.step (OG.call [vcode] ent38 rfl rfl rfl rfl (by exact (drawType_w scode ecode (by omega)))) rfl rfl rfl ?_
 rintro _ _ ⟨v2, g3, u4, rfl, hs5, hs6, hs7, rfl⟩
 refine G.stepD (OD.move rfl rfl) rfl rfl rfl ?_
 refine G.stepD (OD.extract rfl rfl rfl) rfl rfl rfl ?_
 refine G.stepD (OD.extract rfl rfl rfl) rfl rfl rfl ?_
 refine G.step (OG.alloc rfl ti27 (zs := [.int .i64 (0), .slice none 0 0]) rfl) rfl rfl rfl ?_
 rintro _ _ ⟨g8, rfl, rfl⟩
 refine G.stepD (OD.assign rfl rfl) rfl rfl rfl ?_
 refine G.stepD0 (OD.store rfl ti27 rfl rfl (us := [.int .i64 (cR (tpNm g3)), v2]) rfl rfl (allC rfl (allC (IsS.one hs5) rfl)) (i := 0) rfl rfl) rfl rfl ?_
 refine G.nil (GE.then_ (GC.seq ?_))
 obtain ⟨hR, hD, hF, hN, hS0, hO⟩ := tpOk (k := g3) (by assumption)
 have hT : tyS (cR (tpNm g3)) (subD (cR (tpNm g3)) (cD (tpNm g3)) u4) = tyS (tpN g3) (tpD g3) := by rw [hR, hD]; exact hO _ (by rw [← hR]; assumption)
 have hS : (tyS (cR (tpNm g3)) (subD (cR (tpNm g3)) (cD (tpNm g3)) u4)).isSome = true := by rw [hT]; exact hS0
 generalize hce : cR (tpNm g3) = cr at *
 generalize hde : subD (cr) (cD (tpNm g3)) u4 = cd at *
 have hcr4 := (tyS_ok hS).1
 have hl0 : cd.length ≤ 1073741824 := Nat.le_trans (cd_small hS) (by decide)
 have hrs := (rtOk hS).slen
 have hrf := (rtOk hS).few
 have hrk := (rtOk hS).rk
 have hSx : (tyS (cR (tpNm g3)) (cD (tpNm g3))).isSome = true := by rw [hce, hR, hD]; exact hS0
 have hTx : tyS (cR (tpNm g3)) (cD (tpNm g3)) = tyS cr cd := by rw [hT, hce, hR, hD]
 have hsz := tpNm_sz (k := g3) (by assumption)
 have hok : (cF (tpNm g3)).isSome = true := by rw [hF]; rfl
 obtain ⟨hY1, hY2, hY3, hY4, hY5⟩ := cnOk hS
 have hYs : (tyS (cR (tyN (tyS cr cd))) (cD (tyN (tyS cr cd)))).isSome = true := cn_some hS
 have hYok : (cF (tyN (tyS cr cd))).isSome = true := by rw [hY2]; exact hS
 have hlx : (cD (tpNm g3)).length ≤ 1073741824 := Nat.le_trans (cd_small hSx) (by decide)
 have hly : (cD (tyN (tyS cr cd))).length ≤ 1073741824 := Nat.le_trans (cd_small hYs) (by decide)
 have hlo : lenOf cr cd = lenF cr cd := by rw [lenOf, if_pos hS]
 have htz := tyS_small (n := cr) (d := cd)
 have hpr : (prOfL (cR (tyN (tyS cr cd))) (cD (tyN (tyS cr cd)))).length = (prOfL cr cd).length := by rw [prOfL, prOfL, if_pos hS, if_pos hYs, hY1]; exact hY5.symm
 have hcdl := (tyS_ok hS).2
 have hnz2 : (tyN (tyS cr cd)).size ≤ 20 := by rw [hT]; exact tyN_tp (k := g3) (by assumption)
 refine GC.region ?_
 refine G.stepD (OD.move rfl rfl) rfl rfl rfl ?_
 refine G.step (OG.call [.string (tpNm g3)] ent42 rfl rfl rfl rfl (by exact (cartanOf_w ((Ent.drop 2 hg)) (by omega)))) rfl rfl rfl ?_
 rintro _ _ ⟨v9, rfl, hs10, rfl⟩
 refine G.stepD (OD.move rfl rfl) rfl rfl rfl ?_
 refine G.stepD (OD.extract rfl rfl rfl) rfl rfl rfl ?_
 refine G.stepD (OD.eqv (OD.extract rfl rfl rfl) (congrArg Value.bool hok)) rfl rfl rfl ?_
 refine G.step (OG.alloc rfl ti27 (zs := [.int .i64 (0), .slice none 0 0]) rfl) rfl rfl rfl ?_
 rintro _ _ ⟨g11, rfl, rfl⟩
 refine G.stepD0 (OD.store rfl ti27 rfl rfl (us := [.int .i64 (cR (tpNm g3)), v9]) rfl rfl (allC rfl (allC (IsS.one hs10) rfl)) (i := 0) rfl rfl) rfl rfl ?_
 refine G.stepD (OD.assign rfl rfl) rfl rfl rfl ?_
 refine G.nil (GE.then_ (GC.seq (GC.seq ?_)))
 refine GC.at [] 0 (env' := [(4, .pointer (some ⟨g8, 0, none⟩)), (5, .pointer (some ⟨g11, 0, none⟩)), (6, .bool true)]) ⟨rfl, rfl, rfl, trivial⟩ rfl ?_
 refine GC.par (its := [⟨24, [], [], [], [], fun _ => .bool true, fun _ => True, fun _ => []⟩,
     ⟨25, [(0, 24)], [], [], [], fun _ => .bool false, fun _ => True, fun _ => []⟩,
     ⟨26, [(1, 25)], [], [], [], fun _ => .bool false, fun _ => True, fun _ => []⟩,
     ⟨27, [(2, 26)], [], [], [], fun _ => .agg #[.int .i64 (cR (tpNm g3)), v9], fun _ => True, fun _ => []⟩,
     ⟨28, [(2, 26), (3, 27)], [], [], [], fun _ => .bool true, fun _ => True, fun _ => []⟩,
     ⟨29, [(2, 26), (4, 28)], [], [], [], fun _ => .bool false, fun _ => True, fun _ => []⟩,
     ⟨30, [(2, 26), (5, 29)], [], [], [], fun _ => .bool false, fun _ => True, fun _ => []⟩,
     ⟨31, [(6, 30)], [], [], [], fun _ => .bool false, fun _ => True, fun _ => []⟩,
     ⟨32, [(7, 31)], [], [], [], fun _ => .agg #[.int .i64 (cr), v2], fun _ => True, fun _ => []⟩,
     ⟨33, [(7, 31), (8, 32)], [], [], [], fun _ => .bool true, fun _ => True, fun _ => []⟩,
     ⟨34, [(7, 31), (9, 33)], [], [], [], fun _ => .bool false, fun _ => True, fun _ => []⟩,
     ⟨35, [(7, 31), (10, 34)], [], [], [], fun _ => .bool false, fun _ => True, fun _ => []⟩,
     ⟨36, [(11, 35)], [], [], [], fun _ => .bool false, fun _ => True, fun _ => []⟩,
     ⟨37, [(12, 36)], [], [], [], fun _ => .agg #[.int .i64 (cR (tpNm g3)), v9], fun _ => True, fun _ => []⟩,
     ⟨38, [(12, 36), (13, 37)], [], [], [], fun _ => .string (tyN (tyS (cR (tpNm g3)) (cD (tpNm g3)))), fun _ => True, fun _ => []⟩,
     ⟨39, [(12, 36)], [], [], [], fun _ => .agg #[.int .i64 (cr), v2], fun _ => True, fun _ => []⟩,
     ⟨40, [(12, 36), (15, 39)], [], [], [], fun _ => .string (tyN (tyS cr cd)), fun _ => True, fun _ => []⟩,
     ⟨41, [(12, 36), (14, 38), (16, 40)], [], [], [], fun _ => .bool false, fun _ => True, fun _ => []⟩,
     ⟨42, [(12, 36), (17, 41)], [], [], [], fun _ => .bool false, fun _ => True, fun _ => []⟩,
     ⟨43, [(18, 42)], [], [], [], fun _ => .bool false, fun _ => True, fun _ => []⟩,
     ⟨44, [(19, 43)], [], [], [], fun _ => .agg #[.int .i64 (cr), v2], fun _ => True, fun _ => []⟩,
     ⟨45, [(19, 43), (20, 44)], [], [], [], fun _ => .string (tyN (tyS cr cd)), fun _ => True, fun _ => []⟩,
     ⟨46, [(19, 43)], [], [], [], fun _ => .agg #[.int .i64 (cR (tpNm g3)), v9], fun _ => True, fun _ => []⟩,
     ⟨47, [(19, 43), (22, 46)], [], [], [], fun _ => .string (tyN (tyS (cR (tpNm g3)) (cD (tpNm g3)))), fun _ => True, fun _ => []⟩,
     ⟨48, [(19, 43), (21, 45), (23, 47)], [], [], [], fun _ => .bool false, fun _ => True, fun _ => []⟩,
     ⟨49, [(19, 43), (24, 48)], [], [], [], fun _ => .bool false, fun _ => True, fun _ => []⟩]) (by kernel_rfl) (by kernel_rfl) (POps.cons ?_ (POps.cons ?_ (POps.cons ?_ (POps.cons ?_ (POps.cons ?_ (POps.cons ?_ (POps.cons ?_ (POps.cons ?_ (POps.cons ?_ (POps.cons ?_ (POps.cons ?_ (POps.cons ?_ (POps.cons ?_ (POps.cons ?_ (POps.cons ?_ (POps.cons ?_ (POps.cons ?_ (POps.cons ?_ (POps.cons ?_ (POps.cons ?_ (POps.cons ?_ (POps.cons ?_ (POps.cons ?_ (POps.cons ?_ (POps.cons ?_ (POps.cons ?_ POps.nil)))))))))))))))))))))))))) ?_
 intro θ R hd
 exact Opp.plain (OG.imp (OD.move rfl rfl) (by exact fun _ _ h=>pk h rfl trivial rfl)) rfl
 rintro θ R ⟨h0d, _⟩
 exact Opp.plain (OG.imp (OD.not rfl rfl) (by exact fun _ _ h=>pk h rfl trivial rfl)) rfl
 rintro θ R ⟨h1d, _⟩
 exact Opp.plain (OG.imp (OD.move rfl rfl) (by exact fun _ _ h=>pk h rfl trivial rfl)) rfl
 rintro θ R ⟨h2d, _⟩
 exact Opp.on (OG.imp (OD.loadAgg rfl ti27 rfl (i := 0) rfl (us := [.int .i64 (cR (tpNm g3)), v9]) rfl rfl) (by exact fun _ _ h=>pk h rfl trivial rfl)) rfl rfl rfl
 rintro θ R ⟨h2d, h3d, _⟩
 exact Opp.on (OG.imp (OG.imp (K' := fun v ow => v = .bool true ∧ ow = box g11 27 [.int .i64 (cR (tpNm g3)), v9] :: ints 3 v9 (cD (tpNm g3)) :: box g8 27 [.int .i64 (cr), v2] :: ints 3 v2 cd :: own ++ R) (OG.call [.agg #[.int .i64 (cR (tpNm g3)), v9]] ent43 rfl rfl rfl rfl (by exact (isCartan_w hs10 (Ent.ints (i := 1) rfl) (hlx) ((Ent.drop 4 hg.app))))) (by rintro _ _ ⟨rfl, rfl⟩; exact ⟨congrArg Value.bool (hSx), rfl⟩)) (by exact fun _ _ h=>pk h rfl trivial rfl)) rfl rfl rfl
 rintro θ R ⟨h2d, h4d, _⟩
 exact Opp.on (OG.imp (OD.not rfl rfl) (by exact fun _ _ h=>pk h rfl trivial rfl)) rfl rfl rfl
 rintro θ R ⟨h2d, h5d, _⟩
 exact Opp.plain (OG.imp (OD.pickF rfl rfl rfl) (by exact fun _ _ h=>pk h rfl trivial rfl)) rfl
 rintro θ R ⟨h6d, _⟩
 exact Opp.plain (OG.imp (OD.move rfl rfl) (by exact fun _ _ h=>pk h rfl trivial rfl)) rfl
 rintro θ R ⟨h7d, _⟩
 exact Opp.on (OG.imp (OD.loadAgg rfl ti27 rfl (i := 2) rfl (us := [.int .i64 (cr), v2]) rfl rfl) (by exact fun _ _ h=>pk h rfl trivial rfl)) rfl rfl rfl
 rintro θ R ⟨h7d, h8d, _⟩
 exact Opp.on (OG.imp (OG.imp (K' := fun v ow => v = .bool true ∧ ow = box g11 27 [.int .i64 (cR (tpNm g3)), v9] :: ints 3 v9 (cD (tpNm g3)) :: box g8 27 [.int .i64 (cr), v2] :: ints 3 v2 cd :: own ++ R) (OG.call [.agg #[.int .i64 (cr), v2]] ent43 rfl rfl rfl rfl (by exact (isCartan_w hs5 (Ent.ints (i := 3) rfl) (hl0) ((Ent.drop 4 hg.app))))) (by rintro _ _ ⟨rfl, rfl⟩; exact ⟨congrArg Value.bool (hS), rfl⟩)) (by exact fun _ _ h=>pk h rfl trivial rfl)) rfl rfl rfl
 rintro θ R ⟨h7d, h9d, _⟩
 exact Opp.on (OG.imp (OD.not rfl rfl) (by exact fun _ _ h=>pk h rfl trivial rfl)) rfl rfl rfl
 rintro θ R ⟨h7d, h10d, _⟩
 exact Opp.plain (OG.imp (OD.pickF rfl rfl rfl) (by exact fun _ _ h=>pk h rfl trivial rfl)) rfl
 rintro θ R ⟨h11d, _⟩
 exact Opp.plain (OG.imp (OD.move rfl rfl) (by exact fun _ _ h=>pk h rfl trivial rfl)) rfl
 rintro θ R ⟨h12d, _⟩
 exact Opp.on (OG.imp (OD.loadAgg rfl ti27 rfl (i := 0) rfl (us := [.int .i64 (cR (tpNm g3)), v9]) rfl rfl) (by exact fun _ _ h=>pk h rfl trivial rfl)) rfl rfl rfl
 rintro θ R ⟨h12d, h13d, _⟩
 exact Opp.on (OG.imp (OG.call [.agg #[.int .i64 (cR (tpNm g3)), v9]] ent44 rfl rfl rfl rfl (by exact (typeOf_w hs10 (Ent.ints (i := 1) rfl) (hlx) ((Ent.drop 4 hg.app))))) (by exact fun _ _ h=>pk h rfl trivial rfl)) rfl rfl rfl
 rintro θ R ⟨h12d, _⟩
 exact Opp.on (OG.imp (OD.loadAgg rfl ti27 rfl (i := 2) rfl (us := [.int .i64 (cr), v2]) rfl rfl) (by exact fun _ _ h=>pk h rfl trivial rfl)) rfl rfl rfl
 rintro θ R ⟨h12d, h15d, _⟩
 exact Opp.on (OG.imp (OG.call [.agg #[.int .i64 (cr), v2]] ent44 rfl rfl rfl rfl (by exact (typeOf_w hs5 (Ent.ints (i := 3) rfl) (hl0) ((Ent.drop 4 hg.app))))) (by exact fun _ _ h=>pk h rfl trivial rfl)) rfl rfl rfl
 rintro θ R ⟨h12d, h14d, h16d, _⟩
 exact Opp.on (OG.imp (OD.eqv (OD.strNeq rfl rfl rfl) (congrArg Value.bool ((by rw [hTx]; exact strNe_self _) : _ = false))) (by exact fun _ _ h=>pk h rfl trivial rfl)) rfl rfl rfl
 rintro θ R ⟨h12d, h17d, _⟩
 exact Opp.plain (OG.imp (OD.pickF rfl rfl rfl) (by exact fun _ _ h=>pk h rfl trivial rfl)) rfl
 rintro θ R ⟨h18d, _⟩
 exact Opp.plain (OG.imp (OD.move rfl rfl) (by exact fun _ _ h=>pk h rfl trivial rfl)) rfl
 rintro θ R ⟨h19d, _⟩
 exact Opp.on (OG.imp (OD.loadAgg rfl ti27 rfl (i := 2) rfl (us := [.int .i64 (cr), v2]) rfl rfl) (by exact fun _ _ h=>pk h rfl trivial rfl)) rfl rfl rfl
 rintro θ R ⟨h19d, h20d, _⟩
 exact Opp.on (OG.imp (OG.call [.agg #[.int .i64 (cr), v2]] ent44 rfl rfl rfl rfl (by exact (typeOf_w hs5 (Ent.ints (i := 3) rfl) (hl0) ((Ent.drop 4 hg.app))))) (by exact fun _ _ h=>pk h rfl trivial rfl)) rfl rfl rfl
 rintro θ R ⟨h19d, _⟩
 exact Opp.on (OG.imp (OD.loadAgg rfl ti27 rfl (i := 0) rfl (us := [.int .i64 (cR (tpNm g3)), v9]) rfl rfl) (by exact fun _ _ h=>pk h rfl trivial rfl)) rfl rfl rfl
 rintro θ R ⟨h19d, h22d, _⟩
 exact Opp.on (OG.imp (OG.call [.agg #[.int .i64 (cR (tpNm g3)), v9]] ent45 rfl rfl rfl rfl (by exact (specTypeOf_w hs10 (Ent.ints (i := 1) rfl) (hlx)))) (by exact fun _ _ h=>pk h rfl trivial rfl)) rfl rfl rfl
 rintro θ R ⟨h19d, h21d, h23d, _⟩
 exact Opp.on (OG.imp (OD.eqv (OD.strNeq rfl rfl rfl) (congrArg Value.bool ((by rw [hTx]; exact strNe_self _) : _ = false))) (by exact fun _ _ h=>pk h rfl trivial rfl)) rfl rfl rfl
 rintro θ R ⟨h19d, h24d, _⟩
 exact Opp.plain (OG.imp (OD.pickF rfl rfl rfl) (by exact fun _ _ h=>pk h rfl trivial rfl)) rfl
 intro θ hall
 obtain ⟨_, _, _, _, _, _, _, _, _, _, _, _, _, _, _, _, _, _, _, _, _, _, _, _, _, _, _⟩ := hall
 refine G.at [] 0 (env' := [(4, .pointer (some ⟨g8, 0, none⟩)), (49, .bool false)]) ⟨rfl, rfl, trivial⟩ (own' := box g11 27 [.int .i64 (cR (tpNm g3)), v9] :: ints 3 v9 (cD (tpNm g3)) :: box g8 27 [.int .i64 (cr), v2] :: ints 3 v2 cd :: own) rfl ?_
 show G _ _ _ [] _ _ _ _
 refine G.nil (GE.then_ (GC.condF rfl (GC.skip (GE.then_ (GC.seq (GC.region ?_))))))
 refine G.stepD (OD.loadAgg rfl ti27 rfl (i := 2) rfl (us := [.int .i64 (cr), v2]) rfl rfl) rfl rfl rfl ?_
 refine G.step (OG.call [.agg #[.int .i64 (cr), v2]] ent44 rfl rfl rfl rfl (by exact (typeOf_w hs5 (Ent.ints (i := 3) rfl) (hl0) ((Ent.drop 4 hg))))) rfl rfl rfl ?_
 rintro _ _ ⟨rfl, rfl⟩
 refine G.step (OG.call [.string (tyN (tyS cr cd))] ent42 rfl rfl rfl rfl (by exact (cartanOf_w ((Ent.drop 4 hg)) (by omega)))) rfl rfl rfl ?_
 rintro _ _ ⟨v12, rfl, hs13, rfl⟩
 refine G.stepD (OD.move rfl rfl) rfl rfl rfl ?_
 refine G.stepD (OD.extract rfl rfl rfl) rfl rfl rfl ?_
 refine G.stepD (OD.eqv (OD.extract rfl rfl rfl) (congrArg Value.bool hYok)) rfl rfl rfl ?_
 refine G.step (OG.alloc rfl ti27 (zs := [.int .i64 (0), .slice none 0 0]) rfl) rfl rfl rfl ?_
 rintro _ _ ⟨g14, rfl, rfl⟩
 refine G.stepD0 (OD.store rfl ti27 rfl rfl (us := [.int .i64 (cR (tyN (tyS cr cd))), v12]) rfl rfl (allC rfl (allC (IsS.one hs13) rfl)) (i := 0) rfl rfl) rfl rfl ?_
 refine G.stepD (OD.assign rfl rfl) rfl rfl rfl ?_
 refine G.nil (GE.then_ (GC.seq (GC.region ?_)))
 refine G.stepD (OD.loadAgg rfl ti27 rfl (i := 4) rfl (us := [.int .i64 (cr), v2]) rfl rfl) rfl rfl rfl ?_
 refine G.step (OG.call [.agg #[.int .i64 (cr), v2]] ent46 rfl rfl rfl rfl (by exact (lengthsOf_w hs5 (Ent.ints (i := 5) rfl) (hl0) ((Ent.drop 6 hg))))) rfl rfl rfl ?_
 rintro v15 _ ⟨_, rfl, hs16, rfl⟩
 refine G.ownEq (own' := ints 3 v15 (lenF cr cd) :: box g14 27 [.int .i64 (cR (tyN (tyS cr cd))), v12] :: ints 3 v12 (cD (tyN (tyS cr cd))) :: box g11 27 [.int .i64 (cR (tpNm g3)), v9] :: ints 3 v9 (cD (tpNm g3)) :: box g8 27 [.int .i64 (cr), v2] :: ints 3 v2 cd :: own) (by rw [hlo] <;> rfl) ?_
 skip
 refine G.stepD (OD.assign rfl rfl) rfl rfl rfl ?_
 refine G.nil (GE.then_ (GC.seq (GC.seq (GC.region ?_))))
 refine G.stepD (OD.assign rfl rfl) rfl rfl rfl ?_
 refine G.nil (GE.then_ (GC.block ?_))
 refine GC.loop (ι := Nat) (fun i => [(4, .pointer (some ⟨g8, 0, none⟩)), (7, .pointer (some ⟨g14, 0, none⟩)), (8, .bool true), (9, v15), (10, .int .i64 ((i : Int)))]) (fun i => ints 3 v15 (lenF cr cd) :: box g14 27 [.int .i64 (cR (tyN (tyS cr cd))), v12] :: ints 3 v12 (cD (tyN (tyS cr cd))) :: box g11 27 [.int .i64 (cR (tpNm g3)), v9] :: ints 3 v9 (cD (tpNm g3)) :: box g8 27 [.int .i64 (cr), v2] :: ints 3 v2 cd :: own) (fun i => ((i : Int) ≤ cr)) (fun i => cr.toNat - i) 0 (by omega) ⟨rfl, rfl, rfl, rfl, rfl, trivial⟩ [] 0 rfl ?_
 rintro i hi
 refine GC.seq (GC.seq (GC.region ?_))
 refine G.stepD (OD.move rfl rfl) rfl rfl rfl ?_
 refine G.stepD (OD.fieldAddr rfl rfl fa27_0) rfl rfl rfl ?_
 refine G.stepD (OD.load rfl ti3 rfl (i := 5) rfl rfl) rfl rfl rfl ?_
 refine G.stepD (OD.lss rfl rfl rfl) rfl rfl rfl ?_
 refine G.nil (GE.then_ ?_)
 refine GC.cond rfl (fun hc17 => ?_) (fun hc17 => ?_)
 replace hc17 := of_decide_eq_true hc17
 obtain ⟨hLi, hLs⟩ := hY4 i (by omega)
 have hLi2 : 1 ≤ (lenF cr cd).getD ((i : Int)).toNat 0 ∧ (lenF cr cd).getD ((i : Int)).toNat 0 ≤ 36 := hLi
 refine GC.skip (GE.then_ (GC.seq (GC.block (GC.seq (GC.region ?_)))))
 refine G.stepD (OD.assign rfl rfl) rfl rfl rfl ?_
 refine G.nil (GE.then_ (GC.block ?_))
 refine GC.loop (ι := Nat) (fun j => [(4, .pointer (some ⟨g8, 0, none⟩)), (7, .pointer (some ⟨g14, 0, none⟩)), (8, .bool true), (9, v15), (10, .int .i64 ((i : Int))), (11, .int .i64 ((j : Int)))]) (fun j => ints 3 v15 (lenF cr cd) :: box g14 27 [.int .i64 (cR (tyN (tyS cr cd))), v12] :: ints 3 v12 (cD (tyN (tyS cr cd))) :: box g11 27 [.int .i64 (cR (tpNm g3)), v9] :: ints 3 v9 (cD (tpNm g3)) :: box g8 27 [.int .i64 (cr), v2] :: ints 3 v2 cd :: own) (fun j => ((j : Int) ≤ cr)) (fun j => cr.toNat - j) 0 (by omega) ⟨rfl, rfl, rfl, rfl, rfl, rfl, trivial⟩ [] 0 rfl ?_
 rintro j hj
 refine GC.seq (GC.seq (GC.region ?_))
 refine G.stepD (OD.move rfl rfl) rfl rfl rfl ?_
 refine G.stepD (OD.fieldAddr rfl rfl fa27_0) rfl rfl rfl ?_
 refine G.stepD (OD.load rfl ti3 rfl (i := 5) rfl rfl) rfl rfl rfl ?_
 refine G.stepD (OD.lss rfl rfl rfl) rfl rfl rfl ?_
 refine G.nil (GE.then_ ?_)
 refine GC.cond rfl (fun hc18 => ?_) (fun hc18 => ?_)
 replace hc18 := of_decide_eq_true hc18
 have hsym := cn_sym (hLs j (by omega))
 obtain ⟨hLj, _⟩ := hY4 j (by omega)
 have hd1 := atI_bd (n := cr) (rtOk hS).mat (i : Int) (j : Int)
 have hd2 := atI_bd (n := cr) (rtOk hS).mat (j : Int) (i : Int)
 have hm1 : -(36 * 3) ≤ (lenF cr cd).getD (i) 0 * cd.getD ((i : Int) * cr + (j : Int)).toNat 0 ∧ (lenF cr cd).getD (i) 0 * cd.getD ((i : Int) * cr + (j : Int)).toNat 0 ≤ 36 * 3 := mul_abs (by have h1 : 1 ≤ (lenF cr cd).getD (i) 0 ∧ (lenF cr cd).getD (i) 0 ≤ 36 := hLi; omega) hd1
 have hm2 : -(36 * 3) ≤ (lenF cr cd).getD (j) 0 * cd.getD ((j : Int) * cr + (i : Int)).toNat 0 ∧ (lenF cr cd).getD (j) 0 * cd.getD ((j : Int) * cr + (i : Int)).toNat 0 ≤ 36 * 3 := mul_abs (by have h1 : 1 ≤ (lenF cr cd).getD (j) 0 ∧ (lenF cr cd).getD (j) 0 ≤ 36 := hLj; omega) hd2
 have hxx := idx_bd (n := cr) (i := (i : Int)) (j := (j : Int)) ⟨by omega, by omega⟩ ⟨by omega, by omega⟩ (by omega)
 have hxy := idx_bd (n := cr) (i := (j : Int)) (j := (i : Int)) ⟨by omega, by omega⟩ ⟨by omega, by omega⟩ (by omega)
 refine GC.skip (GE.then_ (GC.seq (GC.block (GC.seq ?_))))
 refine GC.at [] 0 (env' := [(4, .pointer (some ⟨g8, 0, none⟩)), (7, .pointer (some ⟨g14, 0, none⟩)), (8, .bool true), (9, v15), (10, .int .i64 ((i : Int))), (11, .int .i64 ((j : Int)))]) ⟨rfl, rfl, rfl, rfl, rfl, rfl, trivial⟩ rfl ?_
 refine GC.par (its := [⟨70, [], [], [], [], fun _ => v15, fun _ => True, fun _ => []⟩,
     ⟨71, [], [], [], [], fun _ => .int .i64 ((i : Int)), fun _ => True, fun _ => []⟩,
     ⟨72, [(0, 70), (1, 71)], [], [], [], fun _ => elemPtr v15 1 (i), fun _ => True, fun _ => []⟩,
     ⟨73, [(2, 72)], [], [], [], fun _ => .int .i64 ((lenF cr cd).getD (i) 0), fun _ => True, fun _ => []⟩,
     ⟨74, [(3, 73)], [], [], [], fun _ => .bool false, fun _ => True, fun _ => []⟩,
     ⟨75, [(4, 74)], [], [], [], fun _ => .bool false, fun _ => True, fun _ => []⟩,
     ⟨76, [(5, 75)], [], [], [], fun _ => v15, fun _ => True, fun _ => []⟩,
     ⟨77, [(5, 75)], [], [], [], fun _ => .int .i64 ((i : Int)), fun _ => True, fun _ => []⟩,
     ⟨78, [(5, 75), (6, 76), (7, 77)], [], [], [], fun _ => elemPtr v15 1 (i), fun _ => True, fun _ => []⟩,
     ⟨79, [(5, 75), (8, 78)], [], [], [], fun _ => .int .i64 ((lenF cr cd).getD (i) 0), fun _ => True, fun _ => []⟩,
     ⟨80, [(5, 75)], [], [], [], fun _ => .pointer (some ⟨g8, 1, none⟩), fun _ => True, fun _ => []⟩,
     ⟨81, [(5, 75), (10, 80)], [], [], [], fun _ => v2, fun _ => True, fun _ => []⟩,
     ⟨82, [(5, 75)], [], [], [], fun _ => .int .i64 ((i : Int)), fun _ => True, fun _ => []⟩,
     ⟨83, [(5, 75)], [], [], [], fun _ => .pointer (some ⟨g8, 0, none⟩), fun _ => True, fun _ => []⟩,
     ⟨84, [(5, 75), (13, 83)], [], [], [], fun _ => .int .i64 (cr), fun _ => True, fun _ => []⟩,
     ⟨85, [(5, 75), (12, 82), (14, 84)], [], [], [], fun _ => .int .i64 ((i : Int) * cr), fun _ => True, fun _ => []⟩,
     ⟨86, [(5, 75)], [], [], [], fun _ => .int .i64 ((j : Int)), fun _ => True, fun _ => []⟩,
     ⟨87, [(5, 75), (15, 85), (16, 86)], [], [], [], fun _ => .int .i64 (((i : Int) * cr) + (j : Int)), fun _ => True, fun _ => []⟩,
     ⟨88, [(5, 75), (11, 81), (17, 87)], [], [], [], fun _ => elemPtr v2 1 ((((i : Int) * cr) + (j : Int) : Int).toNat), fun _ => True, fun _ => []⟩,
     ⟨89, [(5, 75), (18, 88)], [], [], [], fun _ => .int .i64 (cd.getD ((((i : Int) * cr) + (j : Int) : Int).toNat) 0), fun _ => True, fun _ => []⟩,
     ⟨90, [(5, 75), (9, 79), (19, 89)], [], [], [], fun _ => .int .i64 (((lenF cr cd).getD (i) 0) * (cd.getD ((((i : Int) * cr) + (j : Int) : Int).toNat) 0)), fun _ => True, fun _ => []⟩,
     ⟨91, [(5, 75)], [], [], [], fun _ => v15, fun _ => True, fun _ => []⟩,
     ⟨92, [(5, 75)], [], [], [], fun _ => .int .i64 ((j : Int)), fun _ => True, fun _ => []⟩,
     ⟨93, [(5, 75), (21, 91), (22, 92)], [], [], [], fun _ => elemPtr v15 1 (j), fun _ => True, fun _ => []⟩,
     ⟨94, [(5, 75), (23, 93)], [], [], [], fun _ => .int .i64 ((lenF cr cd).getD (j) 0), fun _ => True, fun _ => []⟩,
     ⟨95, [(5, 75)], [], [], [], fun _ => .pointer (some ⟨g8, 1, none⟩), fun _ => True, fun _ => []⟩,
     ⟨96, [(5, 75), (25, 95)], [], [], [], fun _ => v2, fun _ => True, fun _ => []⟩,
     ⟨97, [(5, 75)], [], [], [], fun _ => .int .i64 ((j : Int)), fun _ => True, fun _ => []⟩,
     ⟨98, [(5, 75)], [], [], [], fun _ => .pointer (some ⟨g8, 0, none⟩), fun _ => True, fun _ => []⟩,
     ⟨99, [(5, 75), (28, 98)], [], [], [], fun _ => .int .i64 (cr), fun _ => True, fun _ => []⟩,
     ⟨100, [(5, 75), (27, 97), (29, 99)], [], [], [], fun _ => .int .i64 ((j : Int) * cr), fun _ => True, fun _ => []⟩,
     ⟨101, [(5, 75)], [], [], [], fun _ => .int .i64 ((i : Int)), fun _ => True, fun _ => []⟩,
     ⟨102, [(5, 75), (30, 100), (31, 101)], [], [], [], fun _ => .int .i64 (((j : Int) * cr) + (i : Int)), fun _ => True, fun _ => []⟩,
     ⟨103, [(5, 75), (26, 96), (32, 102)], [], [], [], fun _ => elemPtr v2 1 ((((j : Int) * cr) + (i : Int) : Int).toNat), fun _ => True, fun _ => []⟩,
     ⟨104, [(5, 75), (33, 103)], [], [], [], fun _ => .int .i64 (cd.getD ((((j : Int) * cr) + (i : Int) : Int).toNat) 0), fun _ => True, fun _ => []⟩,
     ⟨105, [(5, 75), (24, 94), (34, 104)], [], [], [], fun _ => .int .i64 (((lenF cr cd).getD (j) 0) * (cd.getD ((((j : Int) * cr) + (i : Int) : Int).toNat) 0)), fun _ => True, fun _ => []⟩,
     ⟨106, [(5, 75), (20, 90), (35, 105)], [], [], [], fun _ => .bool false, fun _ => True, fun _ => []⟩,
     ⟨107, [(5, 75), (36, 106)], [], [], [], fun _ => .bool false, fun _ => True, fun _ => []⟩]) (by kernel_rfl) (by kernel_rfl) (POps.cons ?_ (POps.cons ?_ (POps.cons ?_ (POps.cons ?_ (POps.cons ?_ (POps.cons ?_ (POps.cons ?_ (POps.cons ?_ (POps.cons ?_ (POps.cons ?_ (POps.cons ?_ (POps.cons ?_ (POps.cons ?_ (POps.cons ?_ (POps.cons ?_ (POps.cons ?_ (POps.cons ?_ (POps.cons ?_ (POps.cons ?_ (POps.cons ?_ (POps.cons ?_ (POps.cons ?_ (POps.cons ?_ (POps.cons ?_ (POps.cons ?_ (POps.cons ?_ (POps.cons ?_ (POps.cons ?_ (POps.cons ?_ (POps.cons ?_ (POps.cons ?_ (POps.cons ?_ (POps.cons ?_ (POps.cons ?_ (POps.cons ?_ (POps.cons ?_ (POps.cons ?_ (POps.cons ?_ POps.nil)))))))))))))))))))))))))))))))))))))) ?_
 intro θ R hd
 exact Opp.plain (OG.imp (OD.move rfl rfl) (by exact fun _ _ h=>pk h rfl trivial rfl)) rfl
 intro θ R hd
 exact Opp.plain (OG.imp (OD.move rfl rfl) (by exact fun _ _ h=>pk h rfl trivial rfl)) rfl
 rintro θ R ⟨h0d, h1d, _⟩
 exact Opp.plain (OG.imp (OD.indexAddr rfl et22 rfl (Ent.ints (i := 0) rfl) rfl (by omega)) (by exact fun _ _ h=>pk h rfl trivial rfl)) rfl
 rintro θ R ⟨h2d, _⟩
 exact Opp.plain (OG.imp (OD.loadInt rfl ti3 rfl (Ent.ints (i := 0) rfl) (by omega)) (by exact fun _ _ h=>pk h rfl trivial rfl)) rfl
 rintro θ R ⟨h3d, _⟩
 exact Opp.plain (OG.imp (OD.eqv (OD.lss rfl rfl rfl) (congrArg Value.bool ((decide_eq_false (by omega)) : _ = false))) (by exact fun _ _ h=>pk h rfl trivial rfl)) rfl
 rintro θ R ⟨h4d, _⟩
 exact Opp.plain (OG.imp (OD.move rfl rfl) (by exact fun _ _ h=>pk h rfl trivial rfl)) rfl
 rintro θ R ⟨h5d, _⟩
 exact Opp.on (OG.imp (OD.move rfl rfl) (by exact fun _ _ h=>pk h rfl trivial rfl)) rfl rfl rfl
 rintro θ R ⟨h5d, _⟩
 exact Opp.on (OG.imp (OD.move rfl rfl) (by exact fun _ _ h=>pk h rfl trivial rfl)) rfl rfl rfl
 rintro θ R ⟨h5d, h6d, h7d, _⟩
 exact Opp.on (OG.imp (OD.indexAddr rfl et22 rfl (Ent.ints (i := 0) rfl) rfl (by omega)) (by exact fun _ _ h=>pk h rfl trivial rfl)) rfl rfl rfl
 rintro θ R ⟨h5d, h8d, _⟩
 exact Opp.on (OG.imp (OD.loadInt rfl ti3 rfl (Ent.ints (i := 0) rfl) (by omega)) (by exact fun _ _ h=>pk h rfl trivial rfl)) rfl rfl rfl
 rintro θ R ⟨h5d, _⟩
 exact Opp.on (OG.imp (OD.fieldAddr rfl rfl fa27_1) (by exact fun _ _ h=>pk h rfl trivial rfl)) rfl rfl rfl
 rintro θ R ⟨h5d, h10d, _⟩
 exact Opp.on (OG.imp (OD.load rfl ti22 rfl (i := 5) rfl rfl) (by exact fun _ _ h=>pk h rfl trivial rfl)) rfl rfl rfl
 rintro θ R ⟨h5d, _⟩
 exact Opp.on (OG.imp (OD.move rfl rfl) (by exact fun _ _ h=>pk h rfl trivial rfl)) rfl rfl rfl
 rintro θ R ⟨h5d, _⟩
 exact Opp.on (OG.imp (OD.fieldAddr rfl rfl fa27_0) (by exact fun _ _ h=>pk h rfl trivial rfl)) rfl rfl rfl
 rintro θ R ⟨h5d, h13d, _⟩
 exact Opp.on (OG.imp (OD.load rfl ti3 rfl (i := 5) rfl rfl) (by exact fun _ _ h=>pk h rfl trivial rfl)) rfl rfl rfl
 rintro θ R ⟨h5d, h12d, h14d, _⟩
 exact Opp.on (OG.imp (OD.mulI rfl rfl rfl (by omega)) (by exact fun _ _ h=>pk h rfl trivial rfl)) rfl rfl rfl
 rintro θ R ⟨h5d, _⟩
 exact Opp.on (OG.imp (OD.move rfl rfl) (by exact fun _ _ h=>pk h rfl trivial rfl)) rfl rfl rfl
 rintro θ R ⟨h5d, h15d, h16d, _⟩
 exact Opp.on (OG.imp (OD.addI rfl rfl rfl (by omega)) (by exact fun _ _ h=>pk h rfl trivial rfl)) rfl rfl rfl
 rintro θ R ⟨h5d, h11d, h17d, _⟩
 exact Opp.on (OG.imp (OD.indexAddr rfl et22 rfl (Ent.ints (i := 6) rfl) rfl (by omega)) (by exact fun _ _ h=>pk h rfl trivial rfl)) rfl rfl rfl
 rintro θ R ⟨h5d, h18d, _⟩
 exact Opp.on (OG.imp (OD.loadInt rfl ti3 rfl (Ent.ints (i := 6) rfl) (by omega)) (by exact fun _ _ h=>pk h rfl trivial rfl)) rfl rfl rfl
 rintro θ R ⟨h5d, h9d, h19d, _⟩
 exact Opp.on (OG.imp (OD.mulI rfl rfl rfl (by omega)) (by exact fun _ _ h=>pk h rfl trivial rfl)) rfl rfl rfl
 rintro θ R ⟨h5d, _⟩
 exact Opp.on (OG.imp (OD.move rfl rfl) (by exact fun _ _ h=>pk h rfl trivial rfl)) rfl rfl rfl
 rintro θ R ⟨h5d, _⟩
 exact Opp.on (OG.imp (OD.move rfl rfl) (by exact fun _ _ h=>pk h rfl trivial rfl)) rfl rfl rfl
 rintro θ R ⟨h5d, h21d, h22d, _⟩
 exact Opp.on (OG.imp (OD.indexAddr rfl et22 rfl (Ent.ints (i := 0) rfl) rfl (by omega)) (by exact fun _ _ h=>pk h rfl trivial rfl)) rfl rfl rfl
 rintro θ R ⟨h5d, h23d, _⟩
 exact Opp.on (OG.imp (OD.loadInt rfl ti3 rfl (Ent.ints (i := 0) rfl) (by omega)) (by exact fun _ _ h=>pk h rfl trivial rfl)) rfl rfl rfl
 rintro θ R ⟨h5d, _⟩
 exact Opp.on (OG.imp (OD.fieldAddr rfl rfl fa27_1) (by exact fun _ _ h=>pk h rfl trivial rfl)) rfl rfl rfl
 rintro θ R ⟨h5d, h25d, _⟩
 exact Opp.on (OG.imp (OD.load rfl ti22 rfl (i := 5) rfl rfl) (by exact fun _ _ h=>pk h rfl trivial rfl)) rfl rfl rfl
 rintro θ R ⟨h5d, _⟩
 exact Opp.on (OG.imp (OD.move rfl rfl) (by exact fun _ _ h=>pk h rfl trivial rfl)) rfl rfl rfl
 rintro θ R ⟨h5d, _⟩
 exact Opp.on (OG.imp (OD.fieldAddr rfl rfl fa27_0) (by exact fun _ _ h=>pk h rfl trivial rfl)) rfl rfl rfl
 rintro θ R ⟨h5d, h28d, _⟩
 exact Opp.on (OG.imp (OD.load rfl ti3 rfl (i := 5) rfl rfl) (by exact fun _ _ h=>pk h rfl trivial rfl)) rfl rfl rfl
 rintro θ R ⟨h5d, h27d, h29d, _⟩
 exact Opp.on (OG.imp (OD.mulI rfl rfl rfl (by omega)) (by exact fun _ _ h=>pk h rfl trivial rfl)) rfl rfl rfl
 rintro θ R ⟨h5d, _⟩
 exact Opp.on (OG.imp (OD.move rfl rfl) (by exact fun _ _ h=>pk h rfl trivial rfl)) rfl rfl rfl
 rintro θ R ⟨h5d, h30d, h31d, _⟩
 exact Opp.on (OG.imp (OD.addI rfl rfl rfl (by omega)) (by exact fun _ _ h=>pk h rfl trivial rfl)) rfl rfl rfl
 rintro θ R ⟨h5d, h26d, h32d, _⟩
 exact Opp.on (OG.imp (OD.indexAddr rfl et22 rfl (Ent.ints (i := 6) rfl) rfl (by omega)) (by exact fun _ _ h=>pk h rfl trivial rfl)) rfl rfl rfl
 rintro θ R ⟨h5d, h33d, _⟩
 exact Opp.on (OG.imp (OD.loadInt rfl ti3 rfl (Ent.ints (i := 6) rfl) (by omega)) (by exact fun _ _ h=>pk h rfl trivial rfl)) rfl rfl rfl
 rintro θ R ⟨h5d, h24d, h34d, _⟩
 exact Opp.on (OG.imp (OD.mulI rfl rfl rfl (by omega)) (by exact fun _ _ h=>pk h rfl trivial rfl)) rfl rfl rfl
 rintro θ R ⟨h5d, h20d, h35d, _⟩
 exact Opp.on (OG.imp (OD.eqv (OD.neq rfl rfl rfl) (congrArg Value.bool ((by rw [bne_eq_false_iff_eq]; exact hsym) : _ = false))) (by exact fun _ _ h=>pk h rfl trivial rfl)) rfl rfl rfl
 rintro θ R ⟨h5d, h36d, _⟩
 exact Opp.plain (OG.imp (OD.pickF rfl rfl rfl) (by exact fun _ _ h=>pk h rfl trivial rfl)) rfl
 intro θ hall
 obtain ⟨_, _, _, _, _, _, _, _, _, _, _, _, _, _, _, _, _, _, _, _, _, _, _, _, _, _, _, _, _, _, _, _, _, _, _, _, _, _, _⟩ := hall
 refine G.at [] 0 (env' := [(4, .pointer (some ⟨g8, 0, none⟩)), (7, .pointer (some ⟨g14, 0, none⟩)), (8, .bool true), (9, v15), (10, .int .i64 ((i : Int))), (11, .int .i64 ((j : Int))), (107, .bool false)]) ⟨rfl, rfl, rfl, rfl, rfl, rfl, rfl, trivial⟩ (own' := ints 3 v15 (lenF cr cd) :: box g14 27 [.int .i64 (cR (tyN (tyS cr cd))), v12] :: ints 3 v12 (cD (tyN (tyS cr cd))) :: box g11 27 [.int .i64 (cR (tpNm g3)), v9] :: ints 3 v9 (cD (tpNm g3)) :: box g8 27 [.int .i64 (cr), v2] :: ints 3 v2 cd :: own) rfl ?_
 show G _ _ _ [] _ _ _ _
 refine G.nil (GE.then_ (GC.condF rfl (GC.skip (GE.blockN (GE.then_ (GC.region ?_))))))
 refine G.stepD (OD.move rfl rfl) rfl rfl rfl ?_
 refine G.stepD (OD.addI rfl rfl rfl (by omega)) rfl rfl rfl ?_
 refine G.stepD (OD.assign rfl rfl) rfl rfl rfl ?_
 refine G.nil ?_
 exact GE.again (j + 1) (by omega) (by first | omega | (dsimp only; omega)) ⟨rfl, rfl, rfl, rfl, rfl, rfl, trivial⟩ [] 0 rfl
 replace hc18 := of_decide_eq_false hc18
 refine GC.exit (GE.pass (GE.pass (GE.hit (GE.blockN (GE.then_ (GC.region ?_))))))
 refine G.stepD (OD.move rfl rfl) rfl rfl rfl ?_
 refine G.stepD (OD.addI rfl rfl rfl (by omega)) rfl rfl rfl ?_
 refine G.stepD (OD.assign rfl rfl) rfl rfl rfl ?_
 refine G.nil ?_
 exact GE.again (i + 1) (by omega) (by first | omega | (dsimp only; omega)) ⟨rfl, rfl, rfl, rfl, rfl, trivial⟩ [] 0 rfl
 replace hc17 := of_decide_eq_false hc17
 refine GC.exit (GE.pass (GE.pass (GE.hit (GE.then_ (GC.seq ?_)))))
 refine GC.at [] 0 (env' := [(4, .pointer (some ⟨g8, 0, none⟩)), (7, .pointer (some ⟨g14, 0, none⟩)), (8, .bool true)]) ⟨rfl, rfl, rfl, trivial⟩ rfl ?_
 refine GC.par (its := [⟨108, [], [], [], [], fun _ => .bool true, fun _ => True, fun _ => []⟩,
     ⟨109, [(0, 108)], [], [], [], fun _ => .bool true, fun _ => True, fun _ => []⟩,
     ⟨110, [(1, 109)], [], [], [], fun _ => .pointer (some ⟨g14, 0, none⟩), fun _ => True, fun _ => []⟩,
     ⟨111, [(1, 109), (2, 110)], [], [], [], fun _ => .int .i64 (cR (tyN (tyS cr cd))), fun _ => True, fun _ => []⟩,
     ⟨112, [(1, 109)], [], [], [], fun _ => .pointer (some ⟨g8, 0, none⟩), fun _ => True, fun _ => []⟩,
     ⟨113, [(1, 109), (4, 112)], [], [], [], fun _ => .int .i64 (cr), fun _ => True, fun _ => []⟩,
     ⟨114, [(1, 109), (3, 111), (5, 113)], [], [], [], fun _ => .bool true, fun _ => True, fun _ => []⟩,
     ⟨115, [(1, 109), (6, 114)], [], [], [], fun _ => .bool true, fun _ => True, fun _ => []⟩,
     ⟨116, [(7, 115)], [], [], [], fun _ => .bool true, fun _ => True, fun _ => []⟩,
     ⟨117, [(8, 116)], [], [], [], fun _ => .agg #[.int .i64 (cR (tyN (tyS cr cd))), v12], fun _ => True, fun _ => []⟩,
     ⟨118, [(8, 116), (9, 117)], [], [], [10], fun ds => ((ds.getD 0 []).getD 0 undef), fun ds => IsS ((ds.getD 0 []).getD 0 undef) ∧ AllS (usOf ((ds.getD 0 []).getD 1 undef)) ∧ (usOf ((ds.getD 0 []).getD 1 undef)).length = (prOfL (cR (tyN (tyS cr cd))) (cD (tyN (tyS cr cd)))).length, fun ds => [lst 22 ((ds.getD 0 []).getD 0 undef) (usOf ((ds.getD 0 []).getD 1 undef)), many (ints 3) (usOf ((ds.getD 0 []).getD 1 undef)) (prOfL (cR (tyN (tyS cr cd))) (cD (tyN (tyS cr cd))))]⟩,
     ⟨119, [(8, 116), (10, 118)], [10], [], [10], fun _ => .int .i64 ((((prOfL (cR (tyN (tyS cr cd))) (cD (tyN (tyS cr cd)))).length : Nat) : Int)), fun _ => True, fun _ => []⟩,
     ⟨120, [(8, 116)], [], [], [], fun _ => .agg #[.int .i64 (cr), v2], fun _ => True, fun _ => []⟩,
     ⟨121, [(8, 116), (12, 120)], [], [], [13], fun ds => ((ds.getD 0 []).getD 0 undef), fun ds => IsS ((ds.getD 0 []).getD 0 undef) ∧ AllS (usOf ((ds.getD 0 []).getD 1 undef)) ∧ (usOf ((ds.getD 0 []).getD 1 undef)).length = (prOfL cr cd).length, fun ds => [lst 22 ((ds.getD 0 []).getD 0 undef) (usOf ((ds.getD 0 []).getD 1 undef)), many (ints 3) (usOf ((ds.getD 0 []).getD 1 undef)) (prOfL cr cd)]⟩,
     ⟨122, [(8, 116), (13, 121)], [13], [], [13], fun _ => .int .i64 ((((prOfL cr cd).length : Nat) : Int)), fun _ => True, fun _ => []⟩,
     ⟨123, [(8, 116), (11, 119), (14, 122)], [10, 13], [], [10, 13], fun _ => .bool true, fun _ => True, fun _ => []⟩,
     ⟨124, [(8, 116), (15, 123)], [10, 13], [], [10, 13], fun _ => .bool true, fun _ => True, fun _ => []⟩]) (by kernel_rfl) (by kernel_rfl) (POps.cons ?_ (POps.cons ?_ (POps.cons ?_ (POps.cons ?_ (POps.cons ?_ (POps.cons ?_ (POps.cons ?_ (POps.cons ?_ (POps.cons ?_ (POps.cons ?_ (POps.cons ?_ (POps.cons ?_ (POps.cons ?_ (POps.cons ?_ (POps.cons ?_ (POps.cons ?_ (POps.cons ?_ POps.nil))))))))))))))))) ?_
 intro θ R hd
 exact Opp.plain (OG.imp (OD.move rfl rfl) (by exact fun _ _ h=>pk h rfl trivial rfl)) rfl
 rintro θ R ⟨h0d, _⟩
 exact Opp.plain (OG.imp (OD.move rfl rfl) (by exact fun _ _ h=>pk h rfl trivial rfl)) rfl
 rintro θ R ⟨h1d, _⟩
 exact Opp.on (OG.imp (OD.fieldAddr rfl rfl fa27_0) (by exact fun _ _ h=>pk h rfl trivial rfl)) rfl rfl rfl
 rintro θ R ⟨h1d, h2d, _⟩
 exact Opp.on (OG.imp (OD.load rfl ti3 rfl (i := 1) rfl rfl) (by exact fun _ _ h=>pk h rfl trivial rfl)) rfl rfl rfl
 rintro θ R ⟨h1d, _⟩
 exact Opp.on (OG.imp (OD.fieldAddr rfl rfl fa27_0) (by exact fun _ _ h=>pk h rfl trivial rfl)) rfl rfl rfl
 rintro θ R ⟨h1d, h4d, _⟩
 exact Opp.on (OG.imp (OD.load rfl ti3 rfl (i := 5) rfl rfl) (by exact fun _ _ h=>pk h rfl trivial rfl)) rfl rfl rfl
 rintro θ R ⟨h1d, h3d, h5d, _⟩
 exact Opp.on (OG.imp (OD.eqv (OD.eql rfl rfl rfl) (congrArg Value.bool ((by rw [hY1]; exact beq_self_eq_true _) : _ = true))) (by exact fun _ _ h=>pk h rfl trivial rfl)) rfl rfl rfl
 rintro θ R ⟨h1d, h6d, _⟩
 exact Opp.plain (OG.imp (OD.pickT rfl rfl rfl) (by exact fun _ _ h=>pk h rfl trivial rfl)) rfl
 rintro θ R ⟨h7d, _⟩
 exact Opp.plain (OG.imp (OD.move rfl rfl) (by exact fun _ _ h=>pk h rfl trivial rfl)) rfl
 rintro θ R ⟨h8d, _⟩
 exact Opp.on (OG.imp (OD.loadAgg rfl ti27 rfl (i := 1) rfl (us := [.int .i64 (cR (tyN (tyS cr cd))), v12]) rfl rfl) (by exact fun _ _ h=>pk h rfl trivial rfl)) rfl rfl rfl
 rintro θ R ⟨h8d, h9d, _⟩
 exact Opp.on (OG.imp (OG.call [.agg #[.int .i64 (cR (tyN (tyS cr cd))), v12]] ent35 rfl rfl rfl rfl (by exact (positiveRoots_w hs13 (Ent.ints (i := 2) rfl) (hly) ((Ent.drop 7 hg.app)) ((Ent.drop 7 htab.app))))) (by rintro v19 _ ⟨_, u20, rfl, hs21, hs22, hs23, rfl⟩; exact ⟨[v19, .agg u20.toArray], rfl, ⟨hs21, hs22, hs23⟩, rfl⟩)) rfl rfl rfl
 rintro θ R ⟨h8d, h10d, _⟩
 exact Opp.on (OG.imp (OD.eqv (OD.len rfl rfl et39 rfl (Ent.lst (i := 0) rfl)) (congrArg (Value.int .i64) ((by have h9 : (usOf ((θ 10).getD 1 undef)).length = (prOfL (cR (tyN (tyS cr cd))) (cD (tyN (tyS cr cd)))).length := h10d.2.2; omega) : (((usOf ((θ 10).getD 1 undef)).length : Nat) : Int) = ((((prOfL (cR (tyN (tyS cr cd))) (cD (tyN (tyS cr cd)))).length : Nat) : Int))))) (by exact fun _ _ h=>pk h rfl trivial rfl)) rfl rfl rfl
 rintro θ R ⟨h8d, _⟩
 exact Opp.on (OG.imp (OD.loadAgg rfl ti27 rfl (i := 5) rfl (us := [.int .i64 (cr), v2]) rfl rfl) (by exact fun _ _ h=>pk h rfl trivial rfl)) rfl rfl rfl
 rintro θ R ⟨h8d, h12d, _⟩
 exact Opp.on (OG.imp (OG.call [.agg #[.int .i64 (cr), v2]] ent35 rfl rfl rfl rfl (by exact (positiveRoots_w hs5 (Ent.ints (i := 6) rfl) (hl0) ((Ent.drop 7 hg.app)) ((Ent.drop 7 htab.app))))) (by rintro v24 _ ⟨_, u25, rfl, hs26, hs27, hs28, rfl⟩; exact ⟨[v24, .agg u25.toArray], rfl, ⟨hs26, hs27, hs28⟩, rfl⟩)) rfl rfl rfl
 rintro θ R ⟨h8d, h13d, _⟩
 exact Opp.on (OG.imp (OD.eqv (OD.len rfl rfl et39 rfl (Ent.lst (i := 0) rfl)) (congrArg (Value.int .i64) ((by have h9 : (usOf ((θ 13).getD 1 undef)).length = (prOfL cr cd).length := h13d.2.2; omega) : (((usOf ((θ 13).getD 1 undef)).length : Nat) : Int) = ((((prOfL cr cd).length : Nat) : Int))))) (by exact fun _ _ h=>pk h rfl trivial rfl)) rfl rfl rfl
 rintro θ R ⟨h8d, h11d, h14d, _⟩
 exact Opp.on (OG.imp (OD.eqv (OD.eql rfl rfl rfl) (congrArg Value.bool ((beq_iff_eq.2 (by omega)) : _ = true))) (by exact fun _ _ h=>pk h rfl trivial rfl)) rfl rfl rfl
 rintro θ R ⟨h8d, h15d, _⟩
 exact Opp.plain (OG.imp (OD.pickT rfl rfl rfl) (by exact fun _ _ h=>pk h rfl trivial rfl)) rfl
 intro θ hall
 obtain ⟨_, _, _, _, _, _, _, _, _, _, h10a, _, _, h13a, _, _, _, _⟩ := hall
 refine G.at [] 0 (env' := [(124, .bool true)]) ⟨rfl, trivial⟩ (own' := lst 22 ((θ 10).getD 0 undef) (usOf ((θ 10).getD 1 undef)) :: many (ints 3) (usOf ((θ 10).getD 1 undef)) (prOfL (cR (tyN (tyS cr cd))) (cD (tyN (tyS cr cd)))) :: lst 22 ((θ 13).getD 0 undef) (usOf ((θ 13).getD 1 undef)) :: many (ints 3) (usOf ((θ 13).getD 1 undef)) (prOfL cr cd) :: ints 3 v15 (lenF cr cd) :: box g14 27 [.int .i64 (cR (tyN (tyS cr cd))), v12] :: ints 3 v12 (cD (tyN (tyS cr cd))) :: box g11 27 [.int .i64 (cR (tpNm g3)), v9] :: ints 3 v9 (cD (tpNm g3)) :: box g8 27 [.int .i64 (cr), v2] :: ints 3 v2 cd :: own) rfl ?_
 have hs29 : IsS ((θ 10).getD 0 undef) := h10a.1
 have hs30 : AllS (usOf ((θ 10).getD 1 undef)) := h10a.2.1
 have hs31 : (usOf ((θ 10).getD 1 undef)).length = (prOfL (cR (tyN (tyS cr cd))) (cD (tyN (tyS cr cd)))).length := h10a.2.2
 clear h10a
 generalize ((θ 10).getD 0 undef) = v32 at *
 generalize (usOf ((θ 10).getD 1 undef)) = u33 at *
 have hs34 : IsS ((θ 13).getD 0 undef) := h13a.1
 have hs35 : AllS (usOf ((θ 13).getD 1 undef)) := h13a.2.1
 have hs36 : (usOf ((θ 13).getD 1 undef)).length = (prOfL cr cd).length := h13a.2.2
 clear h13a
 generalize ((θ 13).getD 0 undef) = v37 at *
 generalize (usOf ((θ 13).getD 1 undef)) = u38 at *
 show G _ _ _ [_] _ _ _ _
 refine G.stepD (OD.assign rfl rfl) rfl rfl rfl ?_
 refine G.nil (GE.then_ (GC.ret ?_))
 exact GE.body [] 11 (res1 rfl rfl) rfl (⟨rfl, rfl⟩)
end Go.Proofs.YtgelkakjmbiibaaGreatDoor
