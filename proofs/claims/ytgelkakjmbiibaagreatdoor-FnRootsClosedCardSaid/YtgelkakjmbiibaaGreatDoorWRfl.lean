/-
  Reflections by roots: contracts by walks.
-/
import Derived.Test.YtgelkakjmbiibaaGreatDoorFct
import Derived.Test.YtgelkakjmbiibaaGreatDoorWPrs
namespace Go.Proofs.YtgelkakjmbiibaaGreatDoor
set_option linter.unusedVariables false
set_option linter.unusedSimpArgs false
open Go.RowKit
set_option maxRecDepth 100000 in
theorem reflectBy_w {W : World} {own : List Asn} {cr : Int} {vcd : Value} {cd : List Int} {vy : Value} {y : List Int} {vx : Value} {x : List Int}  (scd : IsS vcd) (ecd : Ent own fun w => Ints w vcd cd)   (sy : IsS vy) (ey : Ent own fun w => Ints w vy y)   (sx : IsS vx) (ex : Ent own fun w => Ints w vx x)  (hl0 : cd.length ≤ 1073741824) (hlx : x.length ≤ 1073741824) (hly : y.length ≤ 1073741824) (h64y : All64 y) (hg : Ent own fun w => ∃ m, w.cell? ⟨Tryz.l146_ren.g 1, 0, none⟩ = some (.int .i64 m)) (htab : Ent own Pow10) : Spec Tryz.prog 49 [.agg #[.int .i64 (cr), vcd], vy, vx] W own (fun v ow => ∃ (r0 : Value), v = r0 ∧ IsS r0 ∧ ow = ints 3 r0 (rbOf cr cd y x) :: own) := by
 refine Spec.enter Tryz.f49 _ Tryz.func49 rfl (n := 30) rfl rfl ?_
 refine GC.seq (GC.region ?_)
 refine G.step (OG.box (cs := [.int .i64 (cr), vcd]) rfl rfl rfl) rfl rfl rfl ?_
 rintro _ _ ⟨g1, rfl, rfl⟩
 refine G.stepD (OD.assign rfl rfl) rfl rfl rfl ?_
 refine G.nil (GE.then_ (GC.seq (GC.seq (GC.region ?_))))
 refine G.stepD (OD.loadAgg rfl ti27 rfl (i := 0) rfl (us := [.int .i64 (cr), vcd]) rfl rfl) rfl rfl rfl ?_
 refine G.stepD (OD.move rfl rfl) rfl rfl rfl ?_
 refine G.step (OG.call [.agg #[.int .i64 (cr), vcd], vy] ent41 rfl rfl rfl rfl (by exact (isRoot_w scd (Ent.drop 1 ecd) sy (Ent.drop 1 ey) (hl0) (by omega) (h64y) ((Ent.drop 1 hg)) ((Ent.drop 1 htab))))) rfl rfl rfl ?_
 rintro _ _ ⟨rfl, rfl⟩
 refine G.stepD (OD.not rfl rfl) rfl rfl rfl ?_
 refine G.stepD (OD.move rfl rfl) rfl rfl rfl ?_
 rcases Bool.eq_false_or_eq_true (!(isRt cr cd y)) with hg2 | hg2
 have hg2e := hg2
 refine G.at [] 0 (env' := [(0, .agg #[.int .i64 (cr), vcd]), (1, vy), (2, vx), (3, .pointer (some ⟨g1, 0, none⟩)), (6, .slice none 0 0), (7, .agg #[.int .i64 (cr), vcd]), (8, vy), (9, .bool (isRt cr cd y)), (10, .bool true), (11, .bool true)]) (⟨rfl, rfl, rfl, rfl, rfl, rfl, rfl, rfl, (congrArg (fun b => some (Value.bool b)) hg2e), (congrArg (fun b => some (Value.bool b)) hg2e), trivial⟩) rfl ?_
 replace hg2 := eq_false_of_not hg2
 refine G.skipG rfl rfl rfl rfl rfl rfl (G.skipG rfl rfl rfl rfl rfl rfl (G.skipG rfl rfl rfl rfl rfl rfl (G.skipG rfl rfl rfl rfl rfl rfl ?_)))
 refine G.stepD (OD.pickT rfl rfl rfl) rfl rfl rfl ?_
 refine G.nil (GE.then_ (GC.condT rfl (GC.seq (GC.region ?_))))
 refine G.stepD (OD.assign rfl rfl) rfl rfl rfl ?_
 refine G.nil (GE.then_ (GC.ret (GE.passR ?_)))
 refine GE.nilInts 3 ?_
 exact GE.body [0] 1 (res1 rfl rfl) rfl (⟨(.slice none 0 0), rfl, IsS.nil, congrArg (fun (l0 : List Int) => ints 3 (.slice none 0 0) l0 :: own) ((by rw [rbOf, hg2] <;> rfl : [] = rbOf cr cd y x))⟩)
 have hg2e := hg2
 refine G.at [] 0 (env' := [(0, .agg #[.int .i64 (cr), vcd]), (1, vy), (2, vx), (3, .pointer (some ⟨g1, 0, none⟩)), (6, .slice none 0 0), (7, .agg #[.int .i64 (cr), vcd]), (8, vy), (9, .bool (isRt cr cd y)), (10, .bool false), (11, .bool false)]) (⟨rfl, rfl, rfl, rfl, rfl, rfl, rfl, rfl, (congrArg (fun b => some (Value.bool b)) hg2e), (congrArg (fun b => some (Value.bool b)) hg2e), trivial⟩) rfl ?_
 replace hg2 := eq_true_of_not hg2
 refine G.stepGD (OD.loadAgg rfl ti27 rfl (i := 0) rfl (us := [.int .i64 (cr), vcd]) rfl rfl) rfl rfl rfl rfl rfl ?_
 refine G.stepGD (OD.move rfl rfl) rfl rfl rfl rfl rfl ?_
 refine G.stepG (OG.call [.agg #[.int .i64 (cr), vcd], vx] ent81 rfl rfl rfl rfl (by exact (isWeight_w scd (Ent.drop 1 ecd) sx (Ent.drop 1 ex) (by omega)))) rfl rfl rfl rfl rfl ?_
 rintro _ _ ⟨rfl, rfl⟩
 refine G.stepGD (OD.not rfl rfl) rfl rfl rfl rfl rfl ?_
 refine G.stepD (OD.pickF rfl rfl rfl) rfl rfl rfl ?_
 refine G.nil (GE.then_ ?_)
 refine GC.cond rfl (fun hc3 => ?_) (fun hc3 => ?_)
 replace hc3 := eq_false_of_not hc3
 refine GC.seq (GC.region ?_)
 refine G.stepD (OD.assign rfl rfl) rfl rfl rfl ?_
 refine G.nil (GE.then_ (GC.ret (GE.passR ?_)))
 refine GE.nilInts 3 ?_
 exact GE.body [0] 1 (res1 rfl rfl) rfl (⟨(.slice none 0 0), rfl, IsS.nil, congrArg (fun (l0 : List Int) => ints 3 (.slice none 0 0) l0 :: own) ((by rw [rbOf, hg2, hc3] <;> rfl : [] = rbOf cr cd y x))⟩)
 replace hc3 := eq_true_of_not hc3
 have h2y := rt_two (isRt_wt h64y hg2).1 (isRt_wt h64y hg2).2.1 (isRt_wt h64y hg2).2.2
 have hby := inF_bd (isRt_wt h64y hg2).1 (isRt_wt h64y hg2).2.1 (isRt_wt h64y hg2).2.1
 have hyl := wtOk_len (isRt_wt h64y hg2).2.1
 have hbx := inF_bd (isRt_wt h64y hg2).1 hc3 (isRt_wt h64y hg2).2.1
 have hxl := wtOk_len hc3
 refine GC.skip (GE.then_ (GC.seq ?_))
 refine GC.at [] 0 (env' := [(1, vy), (2, vx), (3, .pointer (some ⟨g1, 0, none⟩)), (6, .slice none 0 0)]) ⟨rfl, rfl, rfl, rfl, trivial⟩ rfl ?_
 refine GC.par (its := [⟨17, [], [], [], [], fun _ => vx, fun _ => True, fun _ => []⟩,
     ⟨18, [], [], [], [], fun _ => .agg #[.int .i64 (cr), vcd], fun _ => True, fun _ => []⟩,
     ⟨19, [], [], [], [], fun _ => vx, fun _ => True, fun _ => []⟩,
     ⟨20, [], [], [], [], fun _ => vy, fun _ => True, fun _ => []⟩,
     ⟨21, [(1, 18), (2, 19), (3, 20)], [], [], [], fun _ => .int .i64 (inF cr cd x y), fun _ => True, fun _ => []⟩,
     ⟨22, [(4, 21)], [], [], [], fun _ => .int .i64 (IntKind.i64.wrap ((-2) * (inF cr cd x y))), fun _ => True, fun _ => []⟩,
     ⟨23, [], [], [], [], fun _ => .agg #[.int .i64 (cr), vcd], fun _ => True, fun _ => []⟩,
     ⟨24, [], [], [], [], fun _ => vy, fun _ => True, fun _ => []⟩,
     ⟨25, [], [], [], [], fun _ => vy, fun _ => True, fun _ => []⟩,
     ⟨26, [(6, 23), (7, 24), (8, 25)], [], [], [], fun _ => .int .i64 (inF cr cd y y), fun _ => True, fun _ => []⟩,
     ⟨27, [(5, 22), (9, 26)], [], [], [], fun _ => .int .i64 (IntKind.i64.wrap ((IntKind.i64.wrap ((-2) * (inF cr cd x y))).tdiv (inF cr cd y y))), fun _ => True, fun _ => []⟩,
     ⟨28, [], [], [], [], fun _ => vy, fun _ => True, fun _ => []⟩,
     ⟨29, [(0, 17), (10, 27), (11, 28)], [], [], [12], fun ds => ((ds.getD 0 []).getD 0 undef), fun ds => IsS ((ds.getD 0 []).getD 0 undef), fun ds => [ints 3 ((ds.getD 0 []).getD 0 undef) (lpF x (IntKind.i64.wrap ((IntKind.i64.wrap ((-2) * (inF cr cd x y))).tdiv (inF cr cd y y))) y)]⟩]) (by kernel_rfl) (by kernel_rfl) (POps.cons ?_ (POps.cons ?_ (POps.cons ?_ (POps.cons ?_ (POps.cons ?_ (POps.cons ?_ (POps.cons ?_ (POps.cons ?_ (POps.cons ?_ (POps.cons ?_ (POps.cons ?_ (POps.cons ?_ (POps.cons ?_ POps.nil))))))))))))) ?_
 intro θ R hd
 exact Opp.plain (OG.imp (OD.move rfl rfl) (by exact fun _ _ h=>pk h rfl trivial rfl)) rfl
 intro θ R hd
 exact Opp.plain (OG.imp (OD.loadAgg rfl ti27 rfl (i := 0) rfl (us := [.int .i64 (cr), vcd]) rfl rfl) (by exact fun _ _ h=>pk h rfl trivial rfl)) rfl
 intro θ R hd
 exact Opp.plain (OG.imp (OD.move rfl rfl) (by exact fun _ _ h=>pk h rfl trivial rfl)) rfl
 intro θ R hd
 exact Opp.plain (OG.imp (OD.move rfl rfl) (by exact fun _ _ h=>pk h rfl trivial rfl)) rfl
 rintro θ R ⟨h1d, h2d, h3d, _⟩
 exact Opp.plain (OG.imp (OG.call [.agg #[.int .i64 (cr), vcd], vx, vy] ent110 rfl rfl rfl rfl (by exact (inner_w scd (Ent.drop 1 ecd.app) sx (Ent.drop 1 ex.app) sy (Ent.drop 1 ey.app) ((isRt_wt h64y hg2).1) ((wtOk_len hc3)) ((wtOk_len (isRt_wt h64y hg2).2.1))))) (by exact fun _ _ h=>pk h rfl trivial rfl)) rfl
 rintro θ R ⟨h4d, _⟩
 exact Opp.plain (OG.imp (OD.mul rfl rfl rfl) (by exact fun _ _ h=>pk h rfl trivial rfl)) rfl
 intro θ R hd
 exact Opp.plain (OG.imp (OD.loadAgg rfl ti27 rfl (i := 0) rfl (us := [.int .i64 (cr), vcd]) rfl rfl) (by exact fun _ _ h=>pk h rfl trivial rfl)) rfl
 intro θ R hd
 exact Opp.plain (OG.imp (OD.move rfl rfl) (by exact fun _ _ h=>pk h rfl trivial rfl)) rfl
 intro θ R hd
 exact Opp.plain (OG.imp (OD.move rfl rfl) (by exact fun _ _ h=>pk h rfl trivial rfl)) rfl
 rintro θ R ⟨h6d, h7d, h8d, _⟩
 exact Opp.plain (OG.imp (OG.call [.agg #[.int .i64 (cr), vcd], vy, vy] ent110 rfl rfl rfl rfl (by exact (inner_w scd (Ent.drop 1 ecd.app) sy (Ent.drop 1 ey.app) sy (Ent.drop 1 ey.app) ((isRt_wt h64y hg2).1) ((wtOk_len (isRt_wt h64y hg2).2.1)) ((wtOk_len (isRt_wt h64y hg2).2.1))))) (by exact fun _ _ h=>pk h rfl trivial rfl)) rfl
 rintro θ R ⟨h5d, h9d, _⟩
 exact Opp.plain (OG.imp (OD.quo rfl rfl rfl (by omega)) (by exact fun _ _ h=>pk h rfl trivial rfl)) rfl
 intro θ R hd
 exact Opp.plain (OG.imp (OD.move rfl rfl) (by exact fun _ _ h=>pk h rfl trivial rfl)) rfl
 rintro θ R ⟨h0d, h10d, h11d, _⟩
 exact Opp.plain (OG.imp (OG.call [vx, .int .i64 (IntKind.i64.wrap ((IntKind.i64.wrap ((-2) * (inF cr cd x y))).tdiv (inF cr cd y y))), vy] ent109 rfl rfl rfl rfl (by exact (listPlus_w sx (Ent.drop 1 ex.app) sy (Ent.drop 1 ey.app) (by omega) (by omega)))) (by rintro v4 _ ⟨_, rfl, hs5, rfl⟩; exact ⟨[v4], rfl, hs5, rfl⟩)) rfl
 intro θ hall
 obtain ⟨_, _, _, _, _, _, _, _, _, _, _, _, h12a, _⟩ := hall
 refine G.at [] 0 (env' := [(6, .slice none 0 0), (29, ((θ 12).getD 0 undef))]) ⟨rfl, rfl, trivial⟩ (own' := ints 3 ((θ 12).getD 0 undef) (lpF x (IntKind.i64.wrap ((IntKind.i64.wrap ((-2) * (inF cr cd x y))).tdiv (inF cr cd y y))) y) :: box g1 27 [.int .i64 (cr), vcd] :: own) rfl ?_
 have hs6 : IsS ((θ 12).getD 0 undef) := h12a
 clear h12a
 generalize ((θ 12).getD 0 undef) = v7 at *
 show G _ _ _ [_] _ _ _ _
 refine G.stepD (OD.assign rfl rfl) rfl rfl rfl ?_
 refine G.nil (GE.then_ (GC.ret ?_))
 exact GE.body [0] 1 (res1 rfl rfl) rfl (⟨v7, rfl, hs6, congrArg (fun (l0 : List Int) => ints 3 v7 l0 :: own) ((by rw [rbOf, hg2, hc3] <;> rfl : lpF x (IntKind.i64.wrap ((IntKind.i64.wrap ((-2) * (inF cr cd x y))).tdiv (inF cr cd y y))) y = rbOf cr cd y x))⟩)
end Go.Proofs.YtgelkakjmbiibaaGreatDoor
