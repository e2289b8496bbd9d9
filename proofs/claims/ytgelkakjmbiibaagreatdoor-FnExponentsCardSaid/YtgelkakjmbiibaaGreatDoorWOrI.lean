/-
  Orbits by the first text: contracts by walks.
-/
import Derived.Test.YtgelkakjmbiibaaGreatDoorFct
import Derived.Test.YtgelkakjmbiibaaGreatDoorWNst
import Derived.Test.YtgelkakjmbiibaaGreatDoorZ21
namespace Go.Proofs.YtgelkakjmbiibaaGreatDoor
set_option linter.unusedVariables false
set_option linter.unusedSimpArgs false
open Go.RowKit
theorem mt124 : MT Tryz.prog 124 9 4 (.bool false) := ⟨Tryz.underlying124, fun w => by kernel_rfl⟩
set_option maxHeartbeats 4000000 in
set_option maxRecDepth 100000 in
theorem orbit_w {W : World} {own : List Asn} {cr : Int} {vcd : Value} {cd : List Int} {vx : Value} {x : List Int}  (scd : IsS vcd) (ecd : Ent own fun w => Ints w vcd cd)   (sx : IsS vx) (ex : Ent own fun w => Ints w vx x)  (hcr : 1 ≤ cr ∧ cr ≤ 4) (hcd : (cd.length : Int) = cr * cr) (hx : (x.length : Int) = cr) (h64 : All64 x) (htab : Ent own Pow10) : Spec Tryz.prog 83 [.agg #[.int .i64 (cr), vcd], vx] W own (fun v ow => ∃ (r0 : Value) (u0 : List Value), v = r0 ∧ IsS r0 ∧ AllS u0 ∧ u0.length = (oAll cr cd x).length ∧ ow = lst 22 r0 u0 :: many (ints 3) u0 (oAll cr cd x) :: own) := by
 refine Spec.enter Tryz.f83 _ Tryz.func83 rfl (n := 54) rfl rfl ?_
 refine GC.seq (GC.region ?_)
 refine G.step (OG.box (cs := [.int .i64 (cr), vcd]) rfl rfl rfl) rfl rfl rfl ?_
 rintro _ _ ⟨g1, rfl, rfl⟩
 refine G.stepD (OD.assign rfl rfl) rfl rfl rfl ?_
 refine G.nil (GE.then_ (GC.seq (GC.region ?_)))
 refine G.step (OG.makeMap keyL valB rfl rfl) rfl rfl rfl ?_
 rintro _ _ ⟨g2, rfl, rfl⟩
 refine G.stepD (OD.move rfl rfl) rfl rfl rfl ?_
 refine G.step (OG.call [vx] ent64 rfl rfl rfl rfl (by exact (formatInts_w sx (Ent.drop 2 ex) (h64) (by omega) ((Ent.drop 2 htab))))) rfl rfl rfl ?_
 rintro _ _ ⟨rfl, rfl⟩
 refine G.stepD0 (OD.insertM (kE := keyL) (vE := valB) (l := []) (k := x) (b := true) rfl mt124.ht ke9keyL rfl rfl rfl (i := 0) rfl) rfl rfl ?_
 refine G.stepD (OD.move rfl rfl) rfl rfl rfl ?_
 refine G.stepD (OD.assign rfl rfl) rfl rfl rfl ?_
 refine G.nil (GE.then_ (GC.seq (GC.region ?_)))
 refine G.stepD (OD.move rfl rfl) rfl rfl rfl ?_
 refine G.step (OG.call [vx] ent76 rfl rfl rfl rfl (by exact (clone_w sx (Ent.drop 2 ex) (by omega)))) rfl rfl rfl ?_
 rintro v3 _ ⟨_, rfl, hs4, rfl⟩
 refine G.step (OG.buildLst (xs := [.tmp 15]) (us := [v3]) rfl et39 rfl rfl rfl (allC (IsS.one hs4) rfl) rfl) rfl rfl rfl ?_
 rintro v5 _ ⟨hs6, rfl⟩
 refine G.stepD (OD.assign rfl rfl) rfl rfl rfl ?_
 refine G.nil (GE.then_ (GC.seq (GC.seq (GC.region ?_))))
 refine G.stepD (OD.assign rfl rfl) rfl rfl rfl ?_
 refine G.nil (GE.then_ (GC.block ?_))
 refine GC.many0 (ints 3) ?_
 refine GC.at [2, 0, 0, 0, 0] 0 (env' := [(0, .agg #[.int .i64 (cr), vcd]), (1, vx), (2, .pointer (some ⟨g1, 0, none⟩)), (4, .slice none 0 0), (10, .map (some g2)), (11, vx), (12, .string (fmtB x)), (13, .map (some g2)), (5, .map (some g2)), (14, vx), (15, v3), (16, v5), (6, v5), (7, .int .i64 (0))]) ⟨rfl, rfl, rfl, rfl, rfl, rfl, rfl, rfl, rfl, rfl, rfl, rfl, rfl, rfl, trivial⟩ (own' := ints 3 v3 x :: many (ints 3) [] [] :: lst 22 v5 [v3] :: mapA keyL valB g2 (aup x true []) :: box g1 27 [.int .i64 (cr), vcd] :: own) rfl ?_
 refine GC.manyPush (A := ints 3) (vs := []) (xs := []) rfl ?_
 refine GC.ownEq (own' := many (ints 3) [v3] [x] :: lst 22 v5 [v3] :: mapA keyL valB g2 (aup x true []) :: box g1 27 [.int .i64 (cr), vcd] :: own) (rfl) ?_
 refine GC.loop (ι := Nat × List (List Int) × List Value × Value) (fun ⟨k, gs, us, v⟩ => [(2, .pointer (some ⟨g1, 0, none⟩)), (5, .map (some g2)), (6, v), (7, .int .i64 ((k : Int)))]) (fun ⟨k, gs, us, v⟩ => many (ints 3) us gs :: lst 22 v us :: mapA keyL valB g2 (seenT gs) :: box g1 27 [.int .i64 (cr), vcd] :: own) (fun ⟨k, gs, us, v⟩ => (oC cr cd (1300 - k) gs k = oAll cr cd x) ∧ (k ≤ 1200) ∧ (gs.length ≤ 1204) ∧ (∀ y ∈ gs, (y.length : Int) = cr) ∧ (∀ y ∈ gs, All64 y) ∧ (us.length = gs.length) ∧ (AllS us) ∧ (IsS v)) (fun ⟨k, gs, us, v⟩ => 1300 - k) (0, [x], [v3], v5) (⟨rfl, by omega, by simp, fun y hy => by rw [List.mem_singleton.1 hy]; exact hx, fun y hy => by rw [List.mem_singleton.1 hy]; exact h64, rfl, (AllS.snoc AllS.nil hs4), hs6⟩) ⟨rfl, rfl, rfl, rfl, trivial⟩ [] 0 rfl ?_
 rintro ⟨k, gs, us, v⟩ ⟨hoc, hkk, hgl, hge, hg6, hul, ha, hv⟩
 refine GC.seq (GC.seq (GC.region ?_))
 refine G.stepD (OD.move rfl rfl) rfl rfl rfl ?_
 refine G.stepD (OD.move rfl rfl) rfl rfl rfl ?_
 refine G.stepD (OD.len rfl rfl et39 rfl (Ent.lst (i := 1) rfl)) rfl rfl rfl ?_
 refine G.stepD (OD.lss rfl rfl rfl) rfl rfl rfl ?_
 refine G.stepD (OD.move rfl rfl) rfl rfl rfl ?_
 rcases Bool.eq_false_or_eq_true (decide ((k : Int) < (us.length : Nat))) with hg7 | hg7
 have hg7e := hg7
 refine G.at [] 0 (env' := [(2, .pointer (some ⟨g1, 0, none⟩)), (5, .map (some g2)), (6, v), (7, .int .i64 ((k : Int))), (17, .int .i64 ((k : Int))), (18, v), (19, .int .i64 ((us.length : Nat))), (20, .bool true), (21, .bool true)]) (⟨rfl, rfl, rfl, rfl, rfl, rfl, rfl, (congrArg (fun b => some (Value.bool b)) hg7e), (congrArg (fun b => some (Value.bool b)) hg7e), trivial⟩) rfl ?_
 replace hg7 := of_decide_eq_true hg7
 refine G.stepGD (OD.move rfl rfl) rfl rfl rfl rfl rfl ?_
 refine G.stepGD (OD.len rfl rfl et39 rfl (Ent.lst (i := 1) rfl)) rfl rfl rfl rfl rfl ?_
 refine G.stepGD (OD.leq rfl rfl rfl) rfl rfl rfl rfl rfl ?_
 refine G.stepD (OD.pickT rfl rfl rfl) rfl rfl rfl ?_
 refine G.nil (GE.then_ ?_)
 refine GC.cond rfl (fun hc8 => ?_) (fun hc8 => ?_)
 replace hc8 := of_decide_eq_true hc8
 have hgl2 : gs.length ≤ 1200 := by omega
 have hkl : k < gs.length := by omega
 have hgkw := hge _ (getD_mem hkl)
 have hgk6 := hg6 _ (getD_mem hkl)
 refine GC.skip (GE.then_ (GC.seq (GC.block (GC.seq (GC.region ?_)))))
 refine G.stepD (OD.fieldAddr rfl rfl fa27_0) rfl rfl rfl ?_
 refine G.stepD (OD.load rfl ti3 rfl (i := 3) rfl rfl) rfl rfl rfl ?_
 refine G.stepD (OD.move rfl rfl) rfl rfl rfl ?_
 refine G.nil (GE.then_ (GC.block ?_))
 refine GC.loop (ι := Nat × List (List Int) × List Value × Value) (fun ⟨i, qs, uu, w⟩ => [(2, .pointer (some ⟨g1, 0, none⟩)), (5, .map (some g2)), (7, .int .i64 ((k : Int))), (29, .int .i64 (cr)), (6, w), (30, .int .i64 ((i : Int)))]) (fun ⟨i, qs, uu, w⟩ => many (ints 3) uu qs :: lst 22 w uu :: mapA keyL valB g2 (seenT qs) :: box g1 27 [.int .i64 (cr), vcd] :: own) (fun ⟨i, qs, uu, w⟩ => (i ≤ cr.toNat) ∧ (qs = (List.range i).foldl (oOne cr cd (gs.getD k [])) gs) ∧ (qs.length ≤ 1200 + i) ∧ (∀ y ∈ qs, (y.length : Int) = cr) ∧ (∀ y ∈ qs, All64 y) ∧ (uu.length = qs.length) ∧ (AllS uu) ∧ (IsS w)) (fun ⟨i, qs, uu, w⟩ => cr.toNat - i) (0, gs, us, v) (⟨by omega, rfl, by omega, hge, hg6, hul, ha, hv⟩) ⟨rfl, rfl, rfl, rfl, rfl, rfl, trivial⟩ [] 0 rfl ?_
 rintro ⟨i, qs, uu, w⟩ ⟨hi, hqs, hql, hqe, hq6, hqlen, hqa, hw⟩
 obtain ⟨hpre, hpg⟩ := oC_in hoc hkl hgl2 hi hqs
 have hgk : qs.getD k [] = gs.getD k [] := hpg.get hkl
 have hql1 := hpg.len
 refine GC.seq (GC.region ?_)
 refine G.stepD (OD.lss rfl rfl rfl) rfl rfl rfl ?_
 refine G.nil (GE.then_ (GC.seq ?_))
 refine GC.cond rfl (fun hc9 => ?_) (fun hc9 => ?_)
 replace hc9 := of_decide_eq_true hc9
 have hYl : ((rfF cr cd (i : Int) (gs.getD k [])).length : Int) = cr := by rw [rfF_len]; exact hgkw
 have hY6 : All64 (rfF cr cd (i : Int) (gs.getD k [])) := rfF_all64 hgk6
 refine GC.skip (GE.then_ (GC.seq (GC.block (GC.seq (GC.region ?_)))))
 refine G.stepD (OD.move rfl rfl) rfl rfl rfl ?_
 refine G.stepD (OD.assign rfl rfl) rfl rfl rfl ?_
 refine G.nil (GE.then_ (GC.seq ?_))
 refine GC.at [] 0 (env' := [(2, .pointer (some ⟨g1, 0, none⟩)), (5, .map (some g2)), (7, .int .i64 ((k : Int))), (29, .int .i64 (cr)), (6, w), (30, .int .i64 ((i : Int))), (8, .int .i64 ((i : Int)))]) ⟨rfl, rfl, rfl, rfl, rfl, rfl, rfl, trivial⟩ rfl ?_
 refine GC.par (its := [⟨33, [], [], [], [], fun _ => .agg #[.int .i64 (cr), vcd], fun _ => True, fun _ => []⟩,
     ⟨34, [], [], [], [], fun _ => .int .i64 ((i : Int)), fun _ => True, fun _ => []⟩,
     ⟨35, [], [], [], [], fun _ => w, fun _ => True, fun _ => []⟩,
     ⟨36, [], [], [], [], fun _ => .int .i64 ((k : Int)), fun _ => True, fun _ => []⟩,
     ⟨37, [(2, 35), (3, 36)], [], [], [], fun _ => elemPtr w 1 (k), fun _ => True, fun _ => []⟩,
     ⟨38, [(4, 37)], [], [], [], fun _ => (uu.getD (k) undef), fun _ => True, fun _ => []⟩,
     ⟨39, [(0, 33), (1, 34), (5, 38)], [], [], [6], fun ds => ((ds.getD 0 []).getD 0 undef), fun ds => IsS ((ds.getD 0 []).getD 0 undef), fun ds => [ints 3 ((ds.getD 0 []).getD 0 undef) (rfF cr cd (i : Int) (qs.getD (k) []))]⟩]) (by kernel_rfl) (by kernel_rfl) (POps.cons ?_ (POps.cons ?_ (POps.cons ?_ (POps.cons ?_ (POps.cons ?_ (POps.cons ?_ (POps.cons ?_ POps.nil))))))) ?_
 intro θ R hd
 exact Opp.plain (OG.imp (OD.loadAgg rfl ti27 rfl (i := 3) rfl (us := [.int .i64 (cr), vcd]) rfl rfl) (by exact fun _ _ h=>pk h rfl trivial rfl)) rfl
 intro θ R hd
 exact Opp.plain (OG.imp (OD.move rfl rfl) (by exact fun _ _ h=>pk h rfl trivial rfl)) rfl
 intro θ R hd
 exact Opp.plain (OG.imp (OD.move rfl rfl) (by exact fun _ _ h=>pk h rfl trivial rfl)) rfl
 intro θ R hd
 exact Opp.plain (OG.imp (OD.move rfl rfl) (by exact fun _ _ h=>pk h rfl trivial rfl)) rfl
 rintro θ R ⟨h2d, h3d, _⟩
 exact Opp.plain (OG.imp (OD.indexAddr rfl et39 rfl (Ent.lst (i := 1) rfl) rfl (by omega)) (by exact fun _ _ h=>pk h rfl trivial rfl)) rfl
 rintro θ R ⟨h4d, _⟩
 exact Opp.plain (OG.imp (OD.loadElem rfl ti22 rfl (Ent.lst (i := 1) rfl) (by omega) rfl) (by exact fun _ _ h=>pk h rfl trivial rfl)) rfl
 rintro θ R ⟨h0d, h1d, h5d, _⟩
 exact Opp.plain (OG.imp (OG.call [.agg #[.int .i64 (cr), vcd], .int .i64 ((i : Int)), (uu.getD (k) undef)] ent67 rfl rfl rfl rfl (by exact (reflectWeight_w scd (Ent.drop 4 ecd.app) (hqa.get (by omega)) (Ent.manyInts (i := 0) rfl ⟨by first | omega | (simp; omega), by first | omega | (simp; omega)⟩) (hcr) (hcd) (by omega) (by rw [hgk]; exact hgkw)))) (by rintro v10 _ ⟨_, rfl, hs11, rfl⟩; exact ⟨[v10], rfl, hs11, rfl⟩)) rfl
 intro θ hall
 obtain ⟨_, _, _, _, _, _, h6a, _⟩ := hall
 refine G.at [] 0 (env' := [(2, .pointer (some ⟨g1, 0, none⟩)), (5, .map (some g2)), (7, .int .i64 ((k : Int))), (29, .int .i64 (cr)), (6, w), (30, .int .i64 ((i : Int))), (39, ((θ 6).getD 0 undef))]) ⟨rfl, rfl, rfl, rfl, rfl, rfl, rfl, trivial⟩ (own' := ints 3 ((θ 6).getD 0 undef) (rfF cr cd (i : Int) (qs.getD (k) [])) :: many (ints 3) uu qs :: lst 22 w uu :: mapA keyL valB g2 (seenT qs) :: box g1 27 [.int .i64 (cr), vcd] :: own) rfl ?_
 have hs12 : IsS ((θ 6).getD 0 undef) := h6a
 clear h6a
 generalize ((θ 6).getD 0 undef) = v13 at *
 show G _ _ _ [_] _ _ _ _
 refine G.stepD (OD.assign rfl rfl) rfl rfl rfl ?_
 refine G.nil (GE.then_ (GC.seq ?_))
 refine GC.ownEq (own' := ints 3 v13 (rfF cr cd (i : Int) (gs.getD k [])) :: many (ints 3) uu qs :: lst 22 w uu :: mapA keyL valB g2 (seenT qs) :: box g1 27 [.int .i64 (cr), vcd] :: own) (by rw [hgk]) ?_
 refine GC.region ?_
 refine G.stepD (OD.move rfl rfl) rfl rfl rfl ?_
 refine G.stepD (OD.move rfl rfl) rfl rfl rfl ?_
 refine G.step (OG.call [v13] ent64 rfl rfl rfl rfl (by exact (formatInts_w hs12 (Ent.ints (i := 0) rfl) (hY6) (by omega) ((Ent.drop 5 htab))))) rfl rfl rfl ?_
 rintro _ _ ⟨rfl, rfl⟩
 refine G.stepD (OD.eqv (OD.lookup (k := (rfF cr cd (i : Int) (gs.getD k []))) rfl mt124 ke9keyL rfl rfl (Ent.map (kE := keyL) (vE := valB) (l := seenT qs) (i := 3) rfl)) (congrArg (Value.bool) ((alu_seen _ _) : _ = (qs.contains (rfF cr cd (i : Int) (gs.getD k [])))))) rfl rfl rfl ?_
 refine G.stepD (OD.not rfl rfl) rfl rfl rfl ?_
 refine G.nil (GE.then_ ?_)
 refine GC.cond rfl (fun hc14 => ?_) (fun hc14 => ?_)
 replace hc14 := eq_false_of_not hc14
 refine GC.seq (GC.region ?_)
 refine G.stepD (OD.move rfl rfl) rfl rfl rfl ?_
 refine G.stepD (OD.move rfl rfl) rfl rfl rfl ?_
 refine G.step (OG.call [v13] ent64 rfl rfl rfl rfl (by exact (formatInts_w hs12 (Ent.ints (i := 0) rfl) (hY6) (by omega) ((Ent.drop 5 htab))))) rfl rfl rfl ?_
 rintro _ _ ⟨rfl, rfl⟩
 refine G.stepD0 (OD.mapUpdate (kE := keyL) (vE := valB) (l := seenT qs) (k := (rfF cr cd (i : Int) (gs.getD k []))) (b := true) rfl mt124.ht ke9keyL rfl rfl rfl (i := 3) rfl) rfl rfl ?_
 refine G.nil (GE.then_ (GC.region ?_))
 refine G.stepD (OD.move rfl rfl) rfl rfl rfl ?_
 refine G.stepD (OD.move rfl rfl) rfl rfl rfl ?_
 refine G.step (OG.buildLst (xs := [.tmp 49]) (us := [v13]) rfl et39 rfl rfl rfl (allC (IsS.one hs12) rfl) rfl) rfl rfl rfl ?_
 rintro v15 _ ⟨hs16, rfl⟩
 refine G.step (OG.appendLst 3 rfl rfl et39 rfl rfl rfl (Ent.lst (i := 0) rfl) (List.all_eq_true.2 fun u hu => by simpa using (AllS.snoc AllS.nil hs12).one u hu) (by simp [maxLen] <;> omega)) rfl rfl rfl ?_
 rintro v17 _ ⟨hs18, rfl⟩
 refine G.stepD (OD.assign rfl rfl) rfl rfl rfl ?_
 refine G.nil (GE.blockN (GE.then_ (GC.region ?_)))
 refine G.stepD (OD.addI rfl rfl rfl (by omega)) rfl rfl rfl ?_
 refine G.stepD (OD.move rfl rfl) rfl rfl rfl ?_
 refine G.nil ?_
 refine GE.at [1, 1, 0, 0, 0, 0] 0 (env' := [(2, .pointer (some ⟨g1, 0, none⟩)), (5, .map (some g2)), (7, .int .i64 ((k : Int))), (29, .int .i64 (cr)), (39, v13), (9, v13), (40, .map (some g2)), (41, v13), (42, .string (fmtB (rfF cr cd (i : Int) (gs.getD k [])))), (43, .bool (qs.contains (rfF cr cd (i : Int) (gs.getD k [])))), (44, .bool (!(qs.contains (rfF cr cd (i : Int) (gs.getD k []))))), (45, .map (some g2)), (46, v13), (47, .string (fmtB (rfF cr cd (i : Int) (gs.getD k [])))), (48, w), (49, v13), (50, v15), (51, v17), (6, v17), (52, .int .i64 ((i : Int) + 1)), (30, .int .i64 ((i : Int) + 1))]) ⟨rfl, rfl, rfl, rfl, rfl, rfl, rfl, rfl, rfl, rfl, rfl, rfl, rfl, rfl, rfl, rfl, rfl, rfl, rfl, rfl, rfl, trivial⟩ (own' := ints 3 v13 (rfF cr cd (i : Int) (gs.getD k [])) :: many (ints 3) uu qs :: lst 22 v15 [v13] :: lst 22 v17 (uu ++ [v13]) :: mapA keyL valB g2 (aup (rfF cr cd (i : Int) (gs.getD k [])) true (seenT qs)) :: box g1 27 [.int .i64 (cr), vcd] :: own) rfl ?_
 refine GE.manyPush (by omega) ?_
 refine GE.ownEq (own' := many (ints 3) (uu ++ [v13]) (qs ++ [rfF cr cd (i : Int) (gs.getD k [])]) :: lst 22 v15 [v13] :: lst 22 v17 (uu ++ [v13]) :: mapA keyL valB g2 (seenT (qs ++ [rfF cr cd (i : Int) (gs.getD k [])])) :: box g1 27 [.int .i64 (cr), vcd] :: own) (by rw [aup_seen hc14] <;> rfl) ?_
 exact GE.again (i + 1, qs ++ [rfF cr cd (i : Int) (gs.getD k [])], uu ++ [v13], v17) (⟨by omega, fold_next hqs (oOne_yes rfl hc14), by rw [List.length_append, List.length_singleton]; omega, fun z hz => (List.mem_append.1 hz).elim (hqe z) (fun e => by rw [List.mem_singleton.1 e]; exact hYl), fun z hz => (List.mem_append.1 hz).elim (hq6 z) (fun e => by rw [List.mem_singleton.1 e]; exact hY6), by rw [List.length_append, List.length_append]; simp; omega, (hqa.snoc hs12), hs18⟩) (by first | omega | (dsimp only; omega)) ⟨rfl, rfl, rfl, rfl, rfl, rfl, trivial⟩ [0, 1, 1, 1] 1 rfl
 replace hc14 := eq_true_of_not hc14
 refine GC.skip (GE.blockN (GE.then_ (GC.region ?_)))
 refine G.stepD (OD.addI rfl rfl rfl (by omega)) rfl rfl rfl ?_
 refine G.stepD (OD.move rfl rfl) rfl rfl rfl ?_
 refine G.nil ?_
 exact GE.again (i + 1, qs, uu, w) (⟨by omega, fold_next hqs (oOne_no rfl hc14), by omega, hqe, hq6, hqlen, hqa, hw⟩) (by first | omega | (dsimp only; omega)) ⟨rfl, rfl, rfl, rfl, rfl, rfl, trivial⟩ [1, 1, 1, 1] 1 rfl
 replace hc9 := of_decide_eq_false hc9
 refine GC.exit (GE.pass (GE.pass (GE.hit (GE.blockN (GE.then_ (GC.region ?_))))))
 refine G.stepD (OD.move rfl rfl) rfl rfl rfl ?_
 refine G.stepD (OD.addI rfl rfl rfl (by omega)) rfl rfl rfl ?_
 refine G.stepD (OD.assign rfl rfl) rfl rfl rfl ?_
 refine G.nil ?_
 exact GE.again (k + 1, qs, uu, w) (⟨by rw [hqs, show i = cr.toNat by omega]; exact (oC_go hkl hgl2).symm.trans hoc, by omega, by omega, hqe, hq6, hqlen, hqa, hw⟩) (by first | omega | (dsimp only; omega)) ⟨rfl, rfl, rfl, rfl, trivial⟩ [] 0 rfl
 replace hc8 := of_decide_eq_false hc8
 have hga : gs = oAll cr cd x := (oC_stop (fun hh => absurd hh.2 (by omega))).symm.trans hoc
 refine GC.exit (GE.pass (GE.pass (GE.hit (GE.then_ (GC.seq (GC.region ?_))))))
 refine G.stepD (OD.move rfl rfl) rfl rfl rfl ?_
 refine G.stepD (OD.assign rfl rfl) rfl rfl rfl ?_
 refine G.nil (GE.then_ (GC.ret ?_))
 exact GE.body [1, 0] 2 (res1 rfl rfl) rfl (⟨v, us, rfl, hv, ha, (by rw [← hga]; exact hul), congrArg (fun (l0 : List (List Int)) => lst 22 v us :: many (ints 3) us l0 :: own) ((hga : gs = oAll cr cd x))⟩)
 have hg7e := hg7
 refine G.at [] 0 (env' := [(2, .pointer (some ⟨g1, 0, none⟩)), (5, .map (some g2)), (6, v), (7, .int .i64 ((k : Int))), (17, .int .i64 ((k : Int))), (18, v), (19, .int .i64 ((us.length : Nat))), (20, .bool false), (21, .bool false)]) (⟨rfl, rfl, rfl, rfl, rfl, rfl, rfl, (congrArg (fun b => some (Value.bool b)) hg7e), (congrArg (fun b => some (Value.bool b)) hg7e), trivial⟩) rfl ?_
 replace hg7 := of_decide_eq_false hg7
 refine G.skipG rfl rfl rfl rfl rfl rfl (G.skipG rfl rfl rfl rfl rfl rfl (G.skipG rfl rfl rfl rfl rfl rfl ?_))
 refine G.stepD (OD.pickF rfl rfl rfl) rfl rfl rfl ?_
 refine G.nil (GE.then_ (GC.condF rfl ?_))
 have hga : gs = oAll cr cd x := (oC_stop (fun hh => absurd hh.1 (by omega))).symm.trans hoc
 refine GC.exit (GE.pass (GE.pass (GE.hit (GE.then_ (GC.seq (GC.region ?_))))))
 refine G.stepD (OD.move rfl rfl) rfl rfl rfl ?_
 refine G.stepD (OD.assign rfl rfl) rfl rfl rfl ?_
 refine G.nil (GE.then_ (GC.ret ?_))
 exact GE.body [1, 0] 2 (res1 rfl rfl) rfl (⟨v, us, rfl, hv, ha, (by rw [← hga]; exact hul), congrArg (fun (l0 : List (List Int)) => lst 22 v us :: many (ints 3) us l0 :: own) ((hga : gs = oAll cr cd x))⟩)
end Go.Proofs.YtgelkakjmbiibaaGreatDoor
