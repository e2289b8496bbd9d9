/-
  What is below an element, by the first text: a contract by a walk.
-/
import Derived.Test.YtgelkakjmbiibaaGreatDoorFct
import Derived.Test.YtgelkakjmbiibaaGreatDoorWNrm
import Derived.Test.YtgelkakjmbiibaaGreatDoorIsb
import Derived.Test.YtgelkakjmbiibaaGreatDoorZ21
namespace Go.Proofs.YtgelkakjmbiibaaGreatDoor
set_option linter.unusedVariables false
set_option linter.unusedSimpArgs false
open Go.RowKit
theorem ent65 : ∀ us w, (callFunc 65 us).run Tryz.prog w = .ok (.enter 65 us) w := fun us w => by kernel_rfl
theorem ent66 : ∀ us w, (callFunc 66 us).run Tryz.prog w = .ok (.enter 66 us) w := fun us w => by kernel_rfl
theorem mt64 : MT Tryz.prog 64 9 22 (.slice none 0 0) := ⟨Tryz.underlying64, fun w => by kernel_rfl⟩
set_option maxHeartbeats 4000000 in
set_option maxRecDepth 100000 in
theorem isBelow_w {W : World} {own : List Asn} {cr : Int} {vcd : Value} {cd : List Int} {vx : Value} {x : List Int} {vy : Value} {y : List Int}  (scd : IsS vcd) (ecd : Ent own fun w => Ints w vcd cd)   (sx : IsS vx) (ex : Ent own fun w => Ints w vx x)   (sy : IsS vy) (ey : Ent own fun w => Ints w vy y)  (hl0 : cd.length ≤ 1073741824) (hl : x.length ≤ 1073741824) (hly : y.length ≤ 1073741824) (hg : Ent own fun w => ∃ m, w.cell? ⟨Tryz.l146_ren.g 1, 0, none⟩ = some (.int .i64 m)) (htab : Ent own Pow10) : Spec Tryz.prog 16 [.agg #[.int .i64 (cr), vcd], vx, vy] W own (fun v ow => v = .bool (isbOf cr cd x y) ∧ ow = own) := by
 refine Spec.enter Tryz.f16 _ Tryz.func16 rfl (n := 78) rfl rfl ?_
 refine GC.seq (GC.region ?_)
 refine G.step (OG.box (cs := [.int .i64 (cr), vcd]) rfl rfl rfl) rfl rfl rfl ?_
 rintro _ _ ⟨g1, rfl, rfl⟩
 refine G.stepD (OD.assign rfl rfl) rfl rfl rfl ?_
 refine G.nil (GE.then_ (GC.seq (GC.seq (GC.region ?_))))
 refine G.stepD (OD.loadAgg rfl ti27 rfl (i := 0) rfl (us := [.int .i64 (cr), vcd]) rfl rfl) rfl rfl rfl ?_
 refine G.stepD (OD.move rfl rfl) rfl rfl rfl ?_
 refine G.step (OG.call [.agg #[.int .i64 (cr), vcd], vx] ent60 rfl rfl rfl rfl (by exact (wordOk_w scd (Ent.drop 1 ecd) sx (Ent.drop 1 ex) (hl0) (by omega) ((Ent.drop 1 hg))))) rfl rfl rfl ?_
 rintro _ _ ⟨rfl, rfl⟩
 refine G.stepD (OD.not rfl rfl) rfl rfl rfl ?_
 refine G.stepD (OD.move rfl rfl) rfl rfl rfl ?_
 rcases Bool.eq_false_or_eq_true (!(wordB cr cd x)) with hg2 | hg2
 have hg2e := hg2
 refine G.at [] 0 (env' := [(0, .agg #[.int .i64 (cr), vcd]), (1, vx), (2, vy), (3, .pointer (some ⟨g1, 0, none⟩)), (6, .bool false), (15, .agg #[.int .i64 (cr), vcd]), (16, vx), (17, .bool (wordB cr cd x)), (18, .bool true), (19, .bool true)]) (⟨rfl, rfl, rfl, rfl, rfl, rfl, rfl, rfl, (congrArg (fun b => some (Value.bool b)) hg2e), (congrArg (fun b => some (Value.bool b)) hg2e), trivial⟩) rfl ?_
 replace hg2 := eq_false_of_not hg2
 refine G.skipG rfl rfl rfl rfl rfl rfl (G.skipG rfl rfl rfl rfl rfl rfl (G.skipG rfl rfl rfl rfl rfl rfl (G.skipG rfl rfl rfl rfl rfl rfl ?_)))
 refine G.stepD (OD.pickT rfl rfl rfl) rfl rfl rfl ?_
 refine G.nil (GE.then_ (GC.condT rfl (GC.seq (GC.region ?_))))
 refine G.stepD (OD.assign rfl rfl) rfl rfl rfl ?_
 refine G.nil (GE.then_ (GC.ret (GE.passR ?_)))
 exact GE.body [] 1 (res1 rfl rfl) rfl (⟨congrArg (fun (a0 : Bool) => (.bool (a0) : Value)) ((by simp [isbOf, hg2] : (false : Bool) = isbOf cr cd x y)), rfl⟩)
 have hg2e := hg2
 refine G.at [] 0 (env' := [(0, .agg #[.int .i64 (cr), vcd]), (1, vx), (2, vy), (3, .pointer (some ⟨g1, 0, none⟩)), (6, .bool false), (15, .agg #[.int .i64 (cr), vcd]), (16, vx), (17, .bool (wordB cr cd x)), (18, .bool false), (19, .bool false)]) (⟨rfl, rfl, rfl, rfl, rfl, rfl, rfl, rfl, (congrArg (fun b => some (Value.bool b)) hg2e), (congrArg (fun b => some (Value.bool b)) hg2e), trivial⟩) rfl ?_
 replace hg2 := eq_true_of_not hg2
 refine G.stepGD (OD.loadAgg rfl ti27 rfl (i := 0) rfl (us := [.int .i64 (cr), vcd]) rfl rfl) rfl rfl rfl rfl rfl ?_
 refine G.stepGD (OD.move rfl rfl) rfl rfl rfl rfl rfl ?_
 refine G.stepG (OG.call [.agg #[.int .i64 (cr), vcd], vy] ent60 rfl rfl rfl rfl (by exact (wordOk_w scd (Ent.drop 1 ecd) sy (Ent.drop 1 ey) (hl0) (by omega) ((Ent.drop 1 hg))))) rfl rfl rfl rfl rfl ?_
 rintro _ _ ⟨rfl, rfl⟩
 refine G.stepGD (OD.not rfl rfl) rfl rfl rfl rfl rfl ?_
 refine G.stepD (OD.pickF rfl rfl rfl) rfl rfl rfl ?_
 refine G.nil (GE.then_ ?_)
 refine GC.cond rfl (fun hc3 => ?_) (fun hc3 => ?_)
 replace hc3 := eq_false_of_not hc3
 refine GC.seq (GC.region ?_)
 refine G.stepD (OD.assign rfl rfl) rfl rfl rfl ?_
 refine G.nil (GE.then_ (GC.ret (GE.passR ?_)))
 exact GE.body [] 1 (res1 rfl rfl) rfl (⟨congrArg (fun (a0 : Bool) => (.bool (a0) : Value)) ((by simp [isbOf, hg2, hc3] : (false : Bool) = isbOf cr cd x y)), rfl⟩)
 replace hc3 := eq_true_of_not hc3
 refine GC.skip (GE.then_ (GC.seq ?_))
 obtain ⟨⟨hcr, hcd⟩, hu60, hur⟩ := wordB_ok hg2
 obtain ⟨_, hv60, hvr⟩ := wordB_ok hc3
 have hS := wordB_ty hg2
 have hol : (ones cr 1).length = cr.toNat := ones_len cr 1
 have hnr := nw_rngA hS hvr
 have hnl := nwF_len cr cd (actF cr cd y (ones cr 1))
 have hbA : Bd cr cd (actF cr cd y (ones cr 1)) := Bd.word hc3
 refine GC.at [] 0 (env' := [(1, vx), (2, vy), (3, .pointer (some ⟨g1, 0, none⟩))]) ⟨rfl, rfl, rfl, trivial⟩ rfl ?_
 refine GC.par (its := [⟨25, [], [], [], [], fun _ => .agg #[.int .i64 (cr), vcd], fun _ => True, fun _ => []⟩,
     ⟨26, [], [], [], [], fun _ => .agg #[.int .i64 (cr), vcd], fun _ => True, fun _ => []⟩,
     ⟨27, [], [], [], [], fun _ => vy, fun _ => True, fun _ => []⟩,
     ⟨28, [], [], [], [], fun _ => .agg #[.int .i64 (cr), vcd], fun _ => True, fun _ => []⟩,
     ⟨29, [(3, 28)], [], [], [4], fun ds => ((ds.getD 0 []).getD 0 undef), fun ds => IsS ((ds.getD 0 []).getD 0 undef), fun ds => [ints 3 ((ds.getD 0 []).getD 0 undef) (ones cr 1)]⟩,
     ⟨30, [(1, 26), (2, 27), (4, 29)], [4], [], [4, 5], fun ds => ((ds.getD 1 []).getD 0 undef), fun ds => IsS ((ds.getD 1 []).getD 0 undef), fun ds => [ints 3 ((ds.getD 1 []).getD 0 undef) (actF cr cd y (ones cr 1))]⟩,
     ⟨31, [(0, 25), (5, 30)], [4, 5], [], [4, 5, 6], fun ds => ((ds.getD 2 []).getD 0 undef), fun ds => IsS ((ds.getD 2 []).getD 0 undef), fun ds => [ints 3 ((ds.getD 2 []).getD 0 undef) (nwF cr cd (actF cr cd y (ones cr 1)))]⟩]) (by kernel_rfl) (by kernel_rfl) (POps.cons ?_ (POps.cons ?_ (POps.cons ?_ (POps.cons ?_ (POps.cons ?_ (POps.cons ?_ (POps.cons ?_ POps.nil))))))) ?_
 intro θ R hd
 exact Opp.plain (OG.imp (OD.loadAgg rfl ti27 rfl (i := 0) rfl (us := [.int .i64 (cr), vcd]) rfl rfl) (by exact fun _ _ h=>pk h rfl trivial rfl)) rfl
 intro θ R hd
 exact Opp.plain (OG.imp (OD.loadAgg rfl ti27 rfl (i := 0) rfl (us := [.int .i64 (cr), vcd]) rfl rfl) (by exact fun _ _ h=>pk h rfl trivial rfl)) rfl
 intro θ R hd
 exact Opp.plain (OG.imp (OD.move rfl rfl) (by exact fun _ _ h=>pk h rfl trivial rfl)) rfl
 intro θ R hd
 exact Opp.plain (OG.imp (OD.loadAgg rfl ti27 rfl (i := 0) rfl (us := [.int .i64 (cr), vcd]) rfl rfl) (by exact fun _ _ h=>pk h rfl trivial rfl)) rfl
 rintro θ R ⟨h3d, _⟩
 exact Opp.plain (OG.imp (OG.call [.agg #[.int .i64 (cr), vcd]] ent63 rfl rfl rfl rfl (by exact (rho_w scd (Ent.drop 1 ecd.app) (hcr)))) (by rintro v4 _ ⟨_, rfl, hs5, rfl⟩; exact ⟨[v4], rfl, hs5, rfl⟩)) rfl
 rintro θ R ⟨h1d, h2d, h4d, _⟩
 exact Opp.plain (OG.imp (OG.call [.agg #[.int .i64 (cr), vcd], vy, ((θ 4).getD 0 undef)] ent62 rfl rfl rfl rfl (by exact (actWeight_w scd (Ent.drop 2 ecd.app) sy (Ent.drop 2 ey.app) h4d (Ent.ints (i := 0) rfl) (hcr) (hcd) (⟨by omega, hvr⟩) (by omega)))) (by rintro v6 _ ⟨_, rfl, hs7, rfl⟩; exact ⟨[v6], rfl, hs7, rfl⟩)) rfl
 rintro θ R ⟨h0d, h5d, _⟩
 exact Opp.plain (OG.imp (OG.call [.agg #[.int .i64 (cr), vcd], ((θ 5).getD 0 undef)] ent61 rfl rfl rfl rfl (by exact (normalOf_w scd (Ent.drop 3 ecd.app) h5d (Ent.ints (i := 1) rfl) (hcr) (hcd) (phOk hS) (hbA)))) (by rintro v8 _ ⟨_, rfl, hs9, rfl⟩; exact ⟨[v8], rfl, hs9, rfl⟩)) rfl
 intro θ hall
 obtain ⟨_, _, _, _, h4a, h5a, h6a, _⟩ := hall
 refine G.at [] 0 (env' := [(1, vx), (3, .pointer (some ⟨g1, 0, none⟩)), (31, ((θ 6).getD 0 undef))]) ⟨rfl, rfl, rfl, trivial⟩ (own' := ints 3 ((θ 4).getD 0 undef) (ones cr 1) :: ints 3 ((θ 5).getD 0 undef) (actF cr cd y (ones cr 1)) :: ints 3 ((θ 6).getD 0 undef) (nwF cr cd (actF cr cd y (ones cr 1))) :: box g1 27 [.int .i64 (cr), vcd] :: own) rfl ?_
 have hs10 : IsS ((θ 4).getD 0 undef) := h4a
 clear h4a
 generalize ((θ 4).getD 0 undef) = v11 at *
 have hs12 : IsS ((θ 5).getD 0 undef) := h5a
 clear h5a
 generalize ((θ 5).getD 0 undef) = v13 at *
 have hs14 : IsS ((θ 6).getD 0 undef) := h6a
 clear h6a
 generalize ((θ 6).getD 0 undef) = v15 at *
 show G _ _ _ [_] _ _ _ _
 refine G.stepD (OD.assign rfl rfl) rfl rfl rfl ?_
 refine G.nil (GE.then_ (GC.seq ?_))
 refine GC.at [] 0 (env' := [(1, vx), (3, .pointer (some ⟨g1, 0, none⟩)), (7, v15)]) ⟨rfl, rfl, rfl, trivial⟩ rfl ?_
 refine GC.par (its := [⟨32, [], [], [], [0], fun ds => .map (some (gOf ((ds.getD 0 []).getD 0 undef))), fun _ => True, fun ds => [mapA keyL valV (gOf ((ds.getD 0 []).getD 0 undef)) []]⟩,
     ⟨33, [], [], [], [], fun _ => .agg #[.int .i64 (cr), vcd], fun _ => True, fun _ => []⟩,
     ⟨34, [(1, 33)], [], [], [2], fun ds => ((ds.getD 0 []).getD 0 undef), fun ds => IsS ((ds.getD 0 []).getD 0 undef), fun ds => [ints 3 ((ds.getD 0 []).getD 0 undef) (ones cr 1)]⟩,
     ⟨35, [(2, 34)], [2], [], [2], fun _ => .string (fmtB (ones cr 1)), fun _ => True, fun _ => []⟩,
     ⟨36, [], [], [], [], fun _ => .agg #[.int .i64 (cr), vcd], fun _ => True, fun _ => []⟩,
     ⟨37, [(4, 36)], [], [], [5], fun ds => ((ds.getD 0 []).getD 0 undef), fun ds => IsS ((ds.getD 0 []).getD 0 undef), fun ds => [ints 3 ((ds.getD 0 []).getD 0 undef) (ones cr 1)]⟩]) (by kernel_rfl) (by kernel_rfl) (POps.cons ?_ (POps.cons ?_ (POps.cons ?_ (POps.cons ?_ (POps.cons ?_ (POps.cons ?_ POps.nil)))))) ?_
 intro θ R hd
 exact Opp.plain (OG.imp (OG.makeMap keyL valV rfl rfl) (by rintro _ _ ⟨g16, rfl, rfl⟩; exact ⟨[.pointer (some ⟨g16, 0, none⟩)], rfl, trivial, rfl⟩)) rfl
 intro θ R hd
 exact Opp.plain (OG.imp (OD.loadAgg rfl ti27 rfl (i := 3) rfl (us := [.int .i64 (cr), vcd]) rfl rfl) (by exact fun _ _ h=>pk h rfl trivial rfl)) rfl
 rintro θ R ⟨h1d, _⟩
 exact Opp.plain (OG.imp (OG.call [.agg #[.int .i64 (cr), vcd]] ent63 rfl rfl rfl rfl (by exact (rho_w scd (Ent.drop 4 ecd.app) (hcr)))) (by rintro v17 _ ⟨_, rfl, hs18, rfl⟩; exact ⟨[v17], rfl, hs18, rfl⟩)) rfl
 rintro θ R ⟨h2d, _⟩
 exact Opp.plain (OG.imp (OG.call [((θ 2).getD 0 undef)] ent64 rfl rfl rfl rfl (by exact (formatInts_w h2d (Ent.ints (i := 0) rfl) (ones_64) (by rw [ones_len]; omega) ((Ent.drop 5 htab.app))))) (by exact fun _ _ h=>pk h rfl trivial rfl)) rfl
 intro θ R hd
 exact Opp.plain (OG.imp (OD.loadAgg rfl ti27 rfl (i := 3) rfl (us := [.int .i64 (cr), vcd]) rfl rfl) (by exact fun _ _ h=>pk h rfl trivial rfl)) rfl
 rintro θ R ⟨h4d, _⟩
 exact Opp.plain (OG.imp (OG.call [.agg #[.int .i64 (cr), vcd]] ent63 rfl rfl rfl rfl (by exact (rho_w scd (Ent.drop 4 ecd.app) (hcr)))) (by rintro v19 _ ⟨_, rfl, hs20, rfl⟩; exact ⟨[v19], rfl, hs20, rfl⟩)) rfl
 intro θ hall
 obtain ⟨h0a, _, h2a, _, _, h5a, _⟩ := hall
 refine G.at [] 0 (env' := [(1, vx), (3, .pointer (some ⟨g1, 0, none⟩)), (7, v15), (32, .map (some (gOf ((θ 0).getD 0 undef)))), (35, .string (fmtB (ones cr 1))), (37, ((θ 5).getD 0 undef))]) ⟨rfl, rfl, rfl, rfl, rfl, rfl, trivial⟩ (own' := mapA keyL valV (gOf ((θ 0).getD 0 undef)) [] :: ints 3 ((θ 2).getD 0 undef) (ones cr 1) :: ints 3 ((θ 5).getD 0 undef) (ones cr 1) :: ints 3 v11 (ones cr 1) :: ints 3 v13 (actF cr cd y (ones cr 1)) :: ints 3 v15 (nwF cr cd (actF cr cd y (ones cr 1))) :: box g1 27 [.int .i64 (cr), vcd] :: own) rfl ?_
 clear h0a
 generalize (gOf ((θ 0).getD 0 undef)) = b21 at *
 have hs22 : IsS ((θ 2).getD 0 undef) := h2a
 clear h2a
 generalize ((θ 2).getD 0 undef) = v23 at *
 have hs24 : IsS ((θ 5).getD 0 undef) := h5a
 clear h5a
 generalize ((θ 5).getD 0 undef) = v25 at *
 show G _ _ _ [_, _, _] _ _ _ _
 refine G.stepD0 (OD.insertM (kE := keyL) (vE := valV) (l := []) (k := (ones cr 1)) (b := v25) rfl mt64.ht ke9keyL rfl rfl rfl (i := 0) rfl) rfl rfl ?_
 refine G.stepD (OD.move rfl rfl) rfl rfl rfl ?_
 refine G.stepD (OD.assign rfl rfl) rfl rfl rfl ?_
 refine G.nil (GE.then_ (GC.seq (GC.seq (GC.region ?_))))
 refine G.stepD (OD.move rfl rfl) rfl rfl rfl ?_
 refine G.stepD (OD.len rfl rfl et22 rfl (Ent.ints (i := 5) rfl)) rfl rfl rfl ?_
 refine G.stepD (OD.subI rfl rfl rfl (by omega)) rfl rfl rfl ?_
 refine G.stepD (OD.assign rfl rfl) rfl rfl rfl ?_
 refine G.nil (GE.then_ (GC.block ?_))
 refine GC.many0 (ints 3) ?_
 refine GC.at [3, 0, 0, 0, 0, 0, 0, 0] 0 (env' := [(1, vx), (3, .pointer (some ⟨g1, 0, none⟩)), (7, v15), (32, .map (some b21)), (35, .string (fmtB (ones cr 1))), (37, v25), (38, .map (some b21)), (8, .map (some b21)), (39, v15), (40, .int .i64 (((nwF cr cd (actF cr cd y (ones cr 1))).length : Nat))), (41, .int .i64 (((nwF cr cd (actF cr cd y (ones cr 1))).length : Nat) - 1)), (9, .int .i64 (((nwF cr cd (actF cr cd y (ones cr 1))).length : Nat) - 1))]) ⟨rfl, rfl, rfl, rfl, rfl, rfl, rfl, rfl, rfl, rfl, rfl, rfl, trivial⟩ (own' := ints 3 v25 (ones cr 1) :: many (ints 3) [] [] :: mapA keyL valV b21 (aup (ones cr 1) v25 []) :: ints 3 v23 (ones cr 1) :: ints 3 v11 (ones cr 1) :: ints 3 v13 (actF cr cd y (ones cr 1)) :: ints 3 v15 (nwF cr cd (actF cr cd y (ones cr 1))) :: box g1 27 [.int .i64 (cr), vcd] :: own) rfl ?_
 refine GC.manyPush (A := ints 3) (vs := []) (xs := []) rfl ?_
 refine GC.ownEq (own' := many (ints 3) [v25] [ones cr 1] :: mapA keyL valV b21 (aup (ones cr 1) v25 []) :: ints 3 v23 (ones cr 1) :: ints 3 v11 (ones cr 1) :: ints 3 v13 (actF cr cd y (ones cr 1)) :: ints 3 v15 (nwF cr cd (actF cr cd y (ones cr 1))) :: box g1 27 [.int .i64 (cr), vcd] :: own) (rfl) ?_
 refine GC.loop (ι := Nat × List (List Int × Value) × List Value × List (List Int)) (fun ⟨j, l, ps, xs⟩ => [(1, vx), (3, .pointer (some ⟨g1, 0, none⟩)), (7, v15), (8, .map (some b21)), (9, .int .i64 ((j : Int) - 1))]) (fun ⟨j, l, ps, xs⟩ => many (ints 3) ps xs :: mapA keyL valV b21 l :: ints 3 v23 (ones cr 1) :: ints 3 v11 (ones cr 1) :: ints 3 v13 (actF cr cd y (ones cr 1)) :: ints 3 v15 (nwF cr cd (actF cr cd y (ones cr 1))) :: box g1 27 [.int .i64 (cr), vcd] :: own) (fun ⟨j, l, ps, xs⟩ => (j ≤ (nwF cr cd (actF cr cd y (ones cr 1))).length) ∧ (ps.length = xs.length) ∧ (∀ p ∈ l, InPool ps xs p.2 p.1) ∧ (∀ p ∈ l, IsS p.2) ∧ ((l.map (·.1)).Nodup) ∧ (∀ z, z ∈ l.map (·.1) ↔ subM cr cd ((nwF cr cd (actF cr cd y (ones cr 1))).drop j) z)) (fun ⟨j, l, ps, xs⟩ => j) ((nwF cr cd (actF cr cd y (ones cr 1))).length, (aup (ones cr 1) v25 []), [v25], [ones cr 1]) (⟨by omega, rfl, fun p hp => by rw [List.mem_singleton.1 hp]; exact ⟨0, by simp, by simp, rfl, rfl⟩, fun p hp => by rw [List.mem_singleton.1 hp]; exact hs24, by simp [aup], fun z => by rw [List.drop_length, subM]; simp [aup]⟩) ⟨rfl, rfl, rfl, rfl, int_eq (by omega), trivial⟩ [] 0 rfl ?_
 rintro ⟨j, l, ps, xs⟩ ⟨hj, hpl, hin, hls, hnd, hk⟩
 have hln : l.length ≤ 1048576 := Nat.le_trans (keys_few hS (rngW_drop hnr) hnd hk) (by decide)
 refine GC.seq (GC.seq (GC.region ?_))
 refine G.stepD (OD.move rfl rfl) rfl rfl rfl ?_
 refine G.stepD (OD.geq rfl rfl rfl) rfl rfl rfl ?_
 refine G.nil (GE.then_ ?_)
 refine GC.cond rfl (fun hc26 => ?_) (fun hc26 => ?_)
 replace hc26 := of_decide_eq_true hc26
 have hqe : ((j : Int) - 1).toNat = j - 1 := by omega
 have hra := rngW_at hnr (show j - 1 < (nwF cr cd (actF cr cd y (ones cr 1))).length by omega)
 refine GC.skip (GE.then_ (GC.seq (GC.block (GC.seq (GC.region ?_)))))
 refine G.stepD (OD.move rfl rfl) rfl rfl rfl ?_
 refine G.step (OG.call [.map (some b21)] ent66 rfl rfl rfl rfl (by exact values_w)) rfl rfl rfl ?_
 rintro _ _ ⟨g27, rfl, rfl⟩
 refine G.step (OG.call [.func (.func 124) #[] #[.pointer (some ⟨g27, 0, none⟩)]] ent65 rfl rfl rfl rfl (by exact (collect_w (i := 0) (j := 2) rfl rfl hls hln))) rfl rfl rfl ?_
 rintro v28 _ ⟨_, is, rfl, hs29, hal, hpm, rfl⟩
 refine G.stepD (OD.len rfl rfl et39 rfl (Ent.lst (i := 0) rfl)) rfl rfl rfl ?_
 refine G.stepD (OD.move rfl rfl) rfl rfl rfl ?_
 refine G.nil (GE.then_ (GC.block ?_))
 have hall := atPl_len hpm
 refine GC.loop (ι := Nat × List (List Int × Value) × List Value × List (List Int)) (fun ⟨a, m, qs, zs⟩ => [(1, vx), (3, .pointer (some ⟨g1, 0, none⟩)), (7, v15), (8, .map (some b21)), (9, .int .i64 ((j : Int) - 1)), (48, v28), (49, .int .i64 (((atPl l is).length : Nat))), (50, .int .i64 ((a : Int)))]) (fun ⟨a, m, qs, zs⟩ => lst 22 v28 (atPl l is) :: box g27 64 [.map (some b21)] :: many (ints 3) qs zs :: mapA keyL valV b21 m :: ints 3 v23 (ones cr 1) :: ints 3 v11 (ones cr 1) :: ints 3 v13 (actF cr cd y (ones cr 1)) :: ints 3 v15 (nwF cr cd (actF cr cd y (ones cr 1))) :: box g1 27 [.int .i64 (cr), vcd] :: own) (fun ⟨a, m, qs, zs⟩ => (a ≤ (atPl l is).length) ∧ (qs.length = zs.length) ∧ (∀ p ∈ l, InPool qs zs p.2 p.1) ∧ (∀ p ∈ m, InPool qs zs p.2 p.1) ∧ (∀ p ∈ m, IsS p.2) ∧ ((m.map (·.1)).Nodup) ∧ (∀ z, z ∈ m.map (·.1) ↔ z ∈ l.map (·.1) ∨ ∃ i, i < a ∧ z = rfF cr cd ((nwF cr cd (actF cr cd y (ones cr 1))).getD (j - 1) 0) (plD l is i))) (fun ⟨a, m, qs, zs⟩ => (atPl l is).length - a) (0, l, ps, xs) (⟨by omega, hpl, hin, hin, hls, hnd, fun z => ⟨.inl, fun h => h.elim id (fun ⟨i, hi, _⟩ => absurd hi (Nat.not_lt_zero i))⟩⟩) ⟨rfl, rfl, rfl, rfl, rfl, rfl, rfl, rfl, trivial⟩ [] 0 rfl ?_
 rintro ⟨a, m, qs, zs⟩ ⟨ha, hpl2, hin0, hin1, hls1, hnd1, hk1⟩
 refine GC.seq (GC.region ?_)
 refine G.stepD (OD.lss rfl rfl rfl) rfl rfl rfl ?_
 refine G.nil (GE.then_ (GC.seq ?_))
 refine GC.cond rfl (fun hc30 => ?_) (fun hc30 => ?_)
 replace hc30 := of_decide_eq_true hc30
 have hre := reach_ent hS (sub_reach hS (rngW_drop hnr) ((hk _).1 (pl_key hpm (show a < (atPl l is).length by omega))))
 have hyl : (((rfF cr cd ((nwF cr cd (actF cr cd y (ones cr 1))).getD (j - 1) 0) (plD l is a))).length : Int) = cr := by rw [rfF_len]; exact hre.1
 have hy6 : All64 (rfF cr cd ((nwF cr cd (actF cr cd y (ones cr 1))).getD (j - 1) 0) (plD l is a)) := rfF_all64 hre.2.2
 refine GC.skip (GE.then_ (GC.seq (GC.block (GC.seq (GC.region ?_)))))
 refine G.stepD (OD.indexAddr rfl et39 rfl (Ent.lst (i := 0) rfl) rfl (by omega)) rfl rfl rfl ?_
 refine G.stepD (OD.loadElem rfl ti22 rfl (Ent.lst (i := 0) rfl) (by omega) rfl) rfl rfl rfl ?_
 refine G.stepD (OD.assign rfl rfl) rfl rfl rfl ?_
 refine G.nil (GE.then_ (GC.seq ?_))
 refine GC.at [] 0 (env' := [(1, vx), (3, .pointer (some ⟨g1, 0, none⟩)), (7, v15), (8, .map (some b21)), (9, .int .i64 ((j : Int) - 1)), (48, v28), (49, .int .i64 (((atPl l is).length : Nat))), (50, .int .i64 ((a : Int))), (11, ((atPl l is).getD (a) undef))]) ⟨rfl, rfl, rfl, rfl, rfl, rfl, rfl, rfl, rfl, trivial⟩ rfl ?_
 refine GC.par (its := [⟨54, [], [], [], [], fun _ => .agg #[.int .i64 (cr), vcd], fun _ => True, fun _ => []⟩,
     ⟨55, [], [], [], [], fun _ => v15, fun _ => True, fun _ => []⟩,
     ⟨56, [], [], [], [], fun _ => .int .i64 ((j : Int) - 1), fun _ => True, fun _ => []⟩,
     ⟨57, [(1, 55), (2, 56)], [], [], [], fun _ => elemPtr v15 1 (((j : Int) - 1 : Int).toNat), fun _ => True, fun _ => []⟩,
     ⟨58, [(3, 57)], [], [], [], fun _ => .int .i64 ((nwF cr cd (actF cr cd y (ones cr 1))).getD (((j : Int) - 1 : Int).toNat) 0), fun _ => True, fun _ => []⟩,
     ⟨59, [], [], [], [], fun _ => ((atPl l is).getD (a) undef), fun _ => True, fun _ => []⟩,
     ⟨60, [(0, 54), (4, 58), (5, 59)], [], [], [6], fun ds => ((ds.getD 0 []).getD 0 undef), fun ds => IsS ((ds.getD 0 []).getD 0 undef), fun ds => [ints 3 ((ds.getD 0 []).getD 0 undef) (rfF cr cd ((nwF cr cd (actF cr cd y (ones cr 1))).getD (((j : Int) - 1 : Int).toNat) 0) (plD l is a))]⟩]) (by kernel_rfl) (by kernel_rfl) (POps.cons ?_ (POps.cons ?_ (POps.cons ?_ (POps.cons ?_ (POps.cons ?_ (POps.cons ?_ (POps.cons ?_ POps.nil))))))) ?_
 intro θ R hd
 exact Opp.plain (OG.imp (OD.loadAgg rfl ti27 rfl (i := 8) rfl (us := [.int .i64 (cr), vcd]) rfl rfl) (by exact fun _ _ h=>pk h rfl trivial rfl)) rfl
 intro θ R hd
 exact Opp.plain (OG.imp (OD.move rfl rfl) (by exact fun _ _ h=>pk h rfl trivial rfl)) rfl
 intro θ R hd
 exact Opp.plain (OG.imp (OD.move rfl rfl) (by exact fun _ _ h=>pk h rfl trivial rfl)) rfl
 rintro θ R ⟨h1d, h2d, _⟩
 exact Opp.plain (OG.imp (OD.indexAddr rfl et22 rfl (Ent.ints (i := 7) rfl) rfl (by omega)) (by exact fun _ _ h=>pk h rfl trivial rfl)) rfl
 rintro θ R ⟨h3d, _⟩
 exact Opp.plain (OG.imp (OD.loadInt rfl ti3 rfl (Ent.ints (i := 7) rfl) (by omega)) (by exact fun _ _ h=>pk h rfl trivial rfl)) rfl
 intro θ R hd
 exact Opp.plain (OG.imp (OD.move rfl rfl) (by exact fun _ _ h=>pk h rfl trivial rfl)) rfl
 rintro θ R ⟨h0d, h4d, h5d, _⟩
 exact Opp.plain (OG.imp (OG.call [.agg #[.int .i64 (cr), vcd], .int .i64 ((nwF cr cd (actF cr cd y (ones cr 1))).getD (((j : Int) - 1 : Int).toNat) 0), ((atPl l is).getD (a) undef)] ent67 rfl rfl rfl rfl (by exact (reflectWeight_w scd (Ent.drop 9 ecd.app) (hal.get (by omega)) (Ent.pool (i := 2) rfl (pool_at hin0 hpm (show a < _ by omega))) (hcr) (hcd) (by rw [hqe]; omega) (hre.1)))) (by rintro v31 _ ⟨_, rfl, hs32, rfl⟩; exact ⟨[v31], rfl, hs32, rfl⟩)) rfl
 intro θ hall
 obtain ⟨_, _, _, _, _, _, h6a, _⟩ := hall
 refine G.at [] 0 (env' := [(1, vx), (3, .pointer (some ⟨g1, 0, none⟩)), (7, v15), (8, .map (some b21)), (9, .int .i64 ((j : Int) - 1)), (48, v28), (49, .int .i64 (((atPl l is).length : Nat))), (50, .int .i64 ((a : Int))), (60, ((θ 6).getD 0 undef))]) ⟨rfl, rfl, rfl, rfl, rfl, rfl, rfl, rfl, rfl, trivial⟩ (own' := ints 3 ((θ 6).getD 0 undef) (rfF cr cd ((nwF cr cd (actF cr cd y (ones cr 1))).getD (((j : Int) - 1 : Int).toNat) 0) (plD l is a)) :: lst 22 v28 (atPl l is) :: box g27 64 [.map (some b21)] :: many (ints 3) qs zs :: mapA keyL valV b21 m :: ints 3 v23 (ones cr 1) :: ints 3 v11 (ones cr 1) :: ints 3 v13 (actF cr cd y (ones cr 1)) :: ints 3 v15 (nwF cr cd (actF cr cd y (ones cr 1))) :: box g1 27 [.int .i64 (cr), vcd] :: own) rfl ?_
 have hs33 : IsS ((θ 6).getD 0 undef) := h6a
 clear h6a
 generalize ((θ 6).getD 0 undef) = v34 at *
 show G _ _ _ [_] _ _ _ _
 refine G.stepD (OD.assign rfl rfl) rfl rfl rfl ?_
 refine G.nil (GE.then_ (GC.region ?_))
 refine G.stepD (OD.move rfl rfl) rfl rfl rfl ?_
 refine G.stepD (OD.move rfl rfl) rfl rfl rfl ?_
 refine G.step (OG.call [v34] ent64 rfl rfl rfl rfl (by exact (formatInts_w hs33 (Ent.ints (i := 0) rfl) (rfF_all64 hre.2.2) (by rw [rfF_len]; omega) ((Ent.drop 10 htab))))) rfl rfl rfl ?_
 rintro _ _ ⟨rfl, rfl⟩
 refine G.stepD (OD.move rfl rfl) rfl rfl rfl ?_
 refine G.stepD0 (OD.mapUpdate (kE := keyL) (vE := valV) (l := m) (k := (rfF cr cd ((nwF cr cd (actF cr cd y (ones cr 1))).getD (((j : Int) - 1 : Int).toNat) 0) (plD l is a))) (b := v34) rfl mt64.ht ke9keyL rfl rfl rfl (i := 4) rfl) rfl rfl ?_
 refine G.nil (GE.blockN (GE.then_ (GC.region ?_)))
 refine G.stepD (OD.addI rfl rfl rfl (by omega)) rfl rfl rfl ?_
 refine G.stepD (OD.move rfl rfl) rfl rfl rfl ?_
 refine G.nil ?_
 refine GE.at [0, 2, 0, 0, 0, 0, 0, 0, 0, 0] 0 (env' := [(1, vx), (3, .pointer (some ⟨g1, 0, none⟩)), (7, v15), (8, .map (some b21)), (9, .int .i64 ((j : Int) - 1)), (48, v28), (49, .int .i64 (((atPl l is).length : Nat))), (60, v34), (12, v34), (61, .map (some b21)), (62, v34), (63, .string (fmtB (rfF cr cd ((nwF cr cd (actF cr cd y (ones cr 1))).getD (((j : Int) - 1 : Int).toNat) 0) (plD l is a)))), (64, v34), (65, .int .i64 ((a : Int) + 1)), (50, .int .i64 ((a : Int) + 1))]) ⟨rfl, rfl, rfl, rfl, rfl, rfl, rfl, rfl, rfl, rfl, rfl, rfl, rfl, rfl, rfl, trivial⟩ (own' := ints 3 v34 (rfF cr cd ((nwF cr cd (actF cr cd y (ones cr 1))).getD (((j : Int) - 1 : Int).toNat) 0) (plD l is a)) :: many (ints 3) qs zs :: lst 22 v28 (atPl l is) :: box g27 64 [.map (some b21)] :: mapA keyL valV b21 (aup (rfF cr cd ((nwF cr cd (actF cr cd y (ones cr 1))).getD (((j : Int) - 1 : Int).toNat) 0) (plD l is a)) v34 m) :: ints 3 v23 (ones cr 1) :: ints 3 v11 (ones cr 1) :: ints 3 v13 (actF cr cd y (ones cr 1)) :: ints 3 v15 (nwF cr cd (actF cr cd y (ones cr 1))) :: box g1 27 [.int .i64 (cr), vcd] :: own) rfl ?_
 refine GE.manyPush hpl2 ?_
 refine GE.ownEq (own' := many (ints 3) (qs ++ [v34]) (zs ++ [(rfF cr cd ((nwF cr cd (actF cr cd y (ones cr 1))).getD (j - 1) 0) (plD l is a))]) :: lst 22 v28 (atPl l is) :: box g27 64 [.map (some b21)] :: mapA keyL valV b21 (aup (rfF cr cd ((nwF cr cd (actF cr cd y (ones cr 1))).getD (j - 1) 0) (plD l is a)) v34 m) :: ints 3 v23 (ones cr 1) :: ints 3 v11 (ones cr 1) :: ints 3 v13 (actF cr cd y (ones cr 1)) :: ints 3 v15 (nwF cr cd (actF cr cd y (ones cr 1))) :: box g1 27 [.int .i64 (cr), vcd] :: own) (by rw [hqe]) ?_
 exact GE.again (a + 1, (aup (rfF cr cd ((nwF cr cd (actF cr cd y (ones cr 1))).getD (j - 1) 0) (plD l is a)) v34 m), qs ++ [v34], zs ++ [(rfF cr cd ((nwF cr cd (actF cr cd y (ones cr 1))).getD (j - 1) 0) (plD l is a))]) (⟨by omega, by rw [List.length_append, List.length_append, hpl2]; rfl, fun p hp => (hin0 p hp).snoc, fun p hp => (aup_mem hp).elim (fun e => by rw [e]; exact InPool.last hpl2) (fun h => (hin1 p h).snoc), fun p hp => (aup_mem hp).elim (fun e => by rw [e]; exact hs33) (hls1 p), aup_nod hnd1, below_next (f := fun i => rfF cr cd ((nwF cr cd (actF cr cd y (ones cr 1))).getD (j - 1) 0) (plD l is i)) hk1⟩) (by first | omega | (dsimp only; omega)) ⟨rfl, rfl, rfl, rfl, rfl, rfl, rfl, rfl, trivial⟩ [1, 1, 0, 0, 0, 0, 0, 0, 0] 0 rfl
 replace hc30 := of_decide_eq_false hc30
 refine GC.exit (GE.pass (GE.pass (GE.hit (GE.blockN (GE.then_ (GC.region ?_))))))
 refine G.stepD (OD.move rfl rfl) rfl rfl rfl ?_
 refine G.stepD (OD.subI rfl rfl rfl (by omega)) rfl rfl rfl ?_
 refine G.stepD (OD.assign rfl rfl) rfl rfl rfl ?_
 refine G.nil ?_
 exact GE.again ((j - 1), m, qs, zs) (⟨by omega, hpl2, hin1, hls1, hnd1, by rw [drop_at (by omega) hj]; exact below_step hk hpm (by rw [← show a = (atPl l is).length by omega]; exact hk1)⟩) (by first | omega | (dsimp only; omega)) ⟨rfl, rfl, rfl, rfl, int_eq (by omega), trivial⟩ [2, 2, 2, 2, 2, 2, 2] 2 rfl
 replace hc26 := of_decide_eq_false hc26
 have hj0 : j = 0 := by omega
 subst hj0
 rw [List.drop_zero] at hk
 have hend := isb_end hS hur hvr hk
 refine GC.exit (GE.pass (GE.pass (GE.hit (GE.then_ (GC.seq ?_)))))
 refine GC.at [] 0 (env' := [(1, vx), (3, .pointer (some ⟨g1, 0, none⟩)), (8, .map (some b21))]) ⟨rfl, rfl, rfl, trivial⟩ rfl ?_
 refine GC.late (σ := [0, 1, 2, 3, 4, 5, 6, 7, 8, 10, 9, 11, 12]) (L := [10]) (its := [⟨67, [], [], [], [], fun _ => .map (some b21), fun _ => True, fun _ => []⟩,
     ⟨68, [], [], [], [], fun _ => .agg #[.int .i64 (cr), vcd], fun _ => True, fun _ => []⟩,
     ⟨69, [], [], [], [], fun _ => vx, fun _ => True, fun _ => []⟩,
     ⟨70, [], [], [], [], fun _ => .agg #[.int .i64 (cr), vcd], fun _ => True, fun _ => []⟩,
     ⟨71, [(3, 70)], [], [], [4], fun ds => ((ds.getD 0 []).getD 0 undef), fun ds => IsS ((ds.getD 0 []).getD 0 undef), fun ds => [ints 3 ((ds.getD 0 []).getD 0 undef) (ones cr 1)]⟩,
     ⟨72, [(1, 68), (2, 69), (4, 71)], [4], [], [4, 5], fun ds => ((ds.getD 1 []).getD 0 undef), fun ds => IsS ((ds.getD 1 []).getD 0 undef), fun ds => [ints 3 ((ds.getD 1 []).getD 0 undef) (actF cr cd x (ones cr 1))]⟩,
     ⟨73, [(5, 72)], [4, 5], [], [4, 5], fun _ => .string (fmtB (actF cr cd x (ones cr 1))), fun _ => True, fun _ => []⟩,
     ⟨74, [(0, 67), (6, 73)], [4, 5], [], [4, 5], fun _ => .tuple #[(alu (actF cr cd x (ones cr 1)) l).getD (.slice none 0 0), .bool ((alu (actF cr cd x (ones cr 1)) l).isSome)], fun _ => True, fun _ => []⟩,
     ⟨66, [(7, 74)], [4, 5], [], [4, 5], fun _ => .tuple #[(alu (actF cr cd x (ones cr 1)) l).getD (.slice none 0 0), .bool ((alu (actF cr cd x (ones cr 1)) l).isSome)], fun _ => True, fun _ => []⟩,
     ⟨76, [(8, 66)], [4, 5], [], [4, 5], fun _ => .bool ((alu (actF cr cd x (ones cr 1)) l).isSome), fun _ => True, fun _ => []⟩,
     ⟨75, [(8, 66)], [4, 5], [], [4, 5], fun _ => (alu (actF cr cd x (ones cr 1)) l).getD (.slice none 0 0), fun _ => True, fun _ => []⟩]) (by kernel_rfl) (by repeat (first | refine PanQ.then_ ?_ | refine PanQ.block ?_ | exact PanQ.body)) (by kernel_rfl) ⟨⟨_, rfl, .inl rfl⟩, trivial⟩ (by kernel_rfl) (POps.cons ?_ (POps.cons ?_ (POps.cons ?_ (POps.cons ?_ (POps.cons ?_ (POps.cons ?_ (POps.cons ?_ (POps.cons ?_ (POps.cons ?_ (POps.cons ?_ (POps.cons ?_ POps.nil))))))))))) ?_
 intro θ R hd
 exact Opp.plain (OG.imp (OD.move rfl rfl) (by exact fun _ _ h=>pk h rfl trivial rfl)) rfl
 intro θ R hd
 exact Opp.plain (OG.imp (OD.loadAgg rfl ti27 rfl (i := 6) rfl (us := [.int .i64 (cr), vcd]) rfl rfl) (by exact fun _ _ h=>pk h rfl trivial rfl)) rfl
 intro θ R hd
 exact Opp.plain (OG.imp (OD.move rfl rfl) (by exact fun _ _ h=>pk h rfl trivial rfl)) rfl
 intro θ R hd
 exact Opp.plain (OG.imp (OD.loadAgg rfl ti27 rfl (i := 6) rfl (us := [.int .i64 (cr), vcd]) rfl rfl) (by exact fun _ _ h=>pk h rfl trivial rfl)) rfl
 rintro θ R ⟨h3d, _⟩
 exact Opp.plain (OG.imp (OG.call [.agg #[.int .i64 (cr), vcd]] ent63 rfl rfl rfl rfl (by exact (rho_w scd (Ent.drop 7 ecd.app) (hcr)))) (by rintro v35 _ ⟨_, rfl, hs36, rfl⟩; exact ⟨[v35], rfl, hs36, rfl⟩)) rfl
 rintro θ R ⟨h1d, h2d, h4d, _⟩
 exact Opp.plain (OG.imp (OG.call [.agg #[.int .i64 (cr), vcd], vx, ((θ 4).getD 0 undef)] ent62 rfl rfl rfl rfl (by exact (actWeight_w scd (Ent.drop 8 ecd.app) sx (Ent.drop 8 ex.app) h4d (Ent.ints (i := 0) rfl) (hcr) (hcd) (⟨by omega, hur⟩) (by omega)))) (by rintro v37 _ ⟨_, rfl, hs38, rfl⟩; exact ⟨[v37], rfl, hs38, rfl⟩)) rfl
 rintro θ R ⟨h5d, _⟩
 exact Opp.plain (OG.imp (OG.call [((θ 5).getD 0 undef)] ent64 rfl rfl rfl rfl (by exact (formatInts_w h5d (Ent.ints (i := 1) rfl) ((reach_ent hS (act_reach hS hur)).2.2) (by rw [actF_len, ones_len]; omega) ((Ent.drop 9 htab.app))))) (by exact fun _ _ h=>pk h rfl trivial rfl)) rfl
 rintro θ R ⟨h0d, h6d, _⟩
 exact Opp.plain (OG.imp (OD.lookupOk (kE := keyL) (vE := valV) (l := l) (z := (.slice none 0 0)) (k := (actF cr cd x (ones cr 1))) rfl mt64 ke9keyL rfl rfl (Ent.map (kE := keyL) (vE := valV) (l := l) (i := 3) rfl)) (by exact fun _ _ h=>pk h rfl trivial rfl)) rfl
 rintro θ R ⟨h7d, _⟩
 exact Opp.plain (OG.imp (OD.move rfl rfl) (by exact fun _ _ h=>pk h rfl trivial rfl)) rfl
 rintro θ R ⟨h8d, _⟩
 exact Opp.plain (OG.imp (OD.extract rfl rfl rfl) (by exact fun _ _ h=>pk h rfl trivial rfl)) rfl
 rintro θ R ⟨h8d, _⟩
 exact Opp.plain (OG.imp (OD.extract rfl rfl rfl) (by exact fun _ _ h=>pk h rfl trivial rfl)) rfl
 intro θ hall
 obtain ⟨_, _, _, _, h4a, h5a, _, _, _, _, _, _⟩ := hall
 refine G.at [] 0 (env' := [(76, .bool ((alu (actF cr cd x (ones cr 1)) l).isSome)), (75, (alu (actF cr cd x (ones cr 1)) l).getD (.slice none 0 0))]) ⟨rfl, rfl, trivial⟩ (own' := ints 3 ((θ 4).getD 0 undef) (ones cr 1) :: ints 3 ((θ 5).getD 0 undef) (actF cr cd x (ones cr 1)) :: many (ints 3) ps xs :: mapA keyL valV b21 l :: ints 3 v23 (ones cr 1) :: ints 3 v11 (ones cr 1) :: ints 3 v13 (actF cr cd y (ones cr 1)) :: ints 3 v15 (nwF cr cd (actF cr cd y (ones cr 1))) :: box g1 27 [.int .i64 (cr), vcd] :: own) rfl ?_
 have hs39 : IsS ((θ 4).getD 0 undef) := h4a
 clear h4a
 generalize ((θ 4).getD 0 undef) = v40 at *
 have hs41 : IsS ((θ 5).getD 0 undef) := h5a
 clear h5a
 generalize ((θ 5).getD 0 undef) = v42 at *
 show G _ _ _ [_, _] _ _ _ _
 refine G.stepD (OD.assign rfl rfl) rfl rfl rfl ?_
 refine G.stepD (OD.assign rfl rfl) rfl rfl rfl ?_
 refine G.nil (GE.then_ (GC.seq (GC.region ?_)))
 refine G.stepD (OD.move rfl rfl) rfl rfl rfl ?_
 refine G.stepD (OD.assign rfl rfl) rfl rfl rfl ?_
 refine G.nil (GE.then_ (GC.ret ?_))
 exact GE.body [] 9 (res1 rfl rfl) rfl (⟨congrArg (fun (a0 : Bool) => (.bool (a0) : Value)) ((by rw [isbOf, hg2, hc3]; exact hend : ((alu (actF cr cd x (ones cr 1)) l).isSome : Bool) = isbOf cr cd x y)), rfl⟩)
end Go.Proofs.YtgelkakjmbiibaaGreatDoor
