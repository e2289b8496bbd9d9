/-
  Pairs by roots: contracts by walks.
-/
import Derived.Test.YtgelkakjmbiibaaGreatDoorFct
import Derived.Test.YtgelkakjmbiibaaGreatDoorWLen
import Derived.Test.YtgelkakjmbiibaaGreatDoorNewA
namespace Go.Proofs.YtgelkakjmbiibaaGreatDoor
set_option linter.unusedVariables false
set_option linter.unusedSimpArgs false
open Go.RowKit
theorem ent41 : ∀ us w, (callFunc 41 us).run Tryz.prog w = .ok (.enter 41 us) w := fun us w => by kernel_rfl
theorem ent110 : ∀ us w, (callFunc 110 us).run Tryz.prog w = .ok (.enter 110 us) w := fun us w => by kernel_rfl
set_option maxRecDepth 100000 in
theorem pairOf_w {W : World} {own : List Asn} {cr : Int} {vcd : Value} {cd : List Int} {vx : Value} {x : List Int} {vy : Value} {y : List Int}  (scd : IsS vcd) (ecd : Ent own fun w => Ints w vcd cd)   (sx : IsS vx) (ex : Ent own fun w => Ints w vx x)   (sy : IsS vy) (ey : Ent own fun w => Ints w vy y)  (hl0 : cd.length ≤ 1073741824) (hlx : x.length ≤ 1073741824) (hly : y.length ≤ 1073741824) (h64y : All64 y) (hg : Ent own fun w => ∃ m, w.cell? ⟨Tryz.l146_ren.g 1, 0, none⟩ = some (.int .i64 m)) (htab : Ent own Pow10) : Spec Tryz.prog 50 [.agg #[.int .i64 (cr), vcd], vx, vy] W own (fun v ow => v = .int .i64 (prOf cr cd x y) ∧ ow = own) := by
 refine Spec.enter Tryz.f50 _ Tryz.func50 rfl (n := 27) rfl rfl ?_
 refine GC.seq (GC.region ?_)
 refine G.step (OG.box (cs := [.int .i64 (cr), vcd]) rfl rfl rfl) rfl rfl rfl ?_
 rintro _ _ ⟨g1, rfl, rfl⟩
 refine G.stepD (OD.assign rfl rfl) rfl rfl rfl ?_
 refine G.nil (GE.then_ (GC.seq (GC.seq (GC.region ?_))))
 refine G.stepD (OD.loadAgg rfl ti27 rfl (i := 0) rfl (us := [.int .i64 (cr), vcd]) rfl rfl) rfl rfl rfl ?_
 refine G.stepD (OD.move rfl rfl) rfl rfl rfl ?_
 refine G.step (OG.call [.agg #[.int .i64 (cr), vcd], vy] ent41 rfl rfl rfl rfl (by exact (isRoot_w scd (Ent.drop 1 ecd) sy (Ent.drop 1 ey) (hl0) (by omega) (h64y) ((Ent.drop 1 hg)) ((Ent.drop 1 htab))))) rfl rfl rfl ?_
 rintro _ _ ⟨rfl, rfl⟩
 refine G.stepD (OD.not rfl rfl) rfl rfl rfl ?_
 refine G.stepD (OD.move rfl rfl) rfl rfl rfl ?_
 rcases Bool.eq_false_or_eq_true (!(isRt cr cd y)) with hg2 | hg2
 have hg2e := hg2
 refine G.at [] 0 (env' := [(0, .agg #[.int .i64 (cr), vcd]), (1, vx), (2, vy), (3, .pointer (some ⟨g1, 0, none⟩)), (6, .int .i64 (0)), (7, .agg #[.int .i64 (cr), vcd]), (8, vy), (9, .bool (isRt cr cd y)), (10, .bool true), (11, .bool true)]) (⟨rfl, rfl, rfl, rfl, rfl, rfl, rfl, rfl, (congrArg (fun b => some (Value.bool b)) hg2e), (congrArg (fun b => some (Value.bool b)) hg2e), trivial⟩) rfl ?_
 replace hg2 := eq_false_of_not hg2
 refine G.skipG rfl rfl rfl rfl rfl rfl (G.skipG rfl rfl rfl rfl rfl rfl (G.skipG rfl rfl rfl rfl rfl rfl (G.skipG rfl rfl rfl rfl rfl rfl ?_)))
 refine G.stepD (OD.pickT rfl rfl rfl) rfl rfl rfl ?_
 refine G.nil (GE.then_ (GC.condT rfl (GC.seq (GC.region ?_))))
 refine G.stepD (OD.assign rfl rfl) rfl rfl rfl ?_
 refine G.nil (GE.then_ (GC.ret (GE.passR ?_)))
 exact GE.body [] 1 (res1 rfl rfl) rfl (⟨congrArg (fun (a0 : Int) => (.int .i64 (a0) : Value)) ((by rw [prOf, hg2] <;> rfl : (0 : Int) = prOf cr cd x y)), rfl⟩)
 have hg2e := hg2
 refine G.at [] 0 (env' := [(0, .agg #[.int .i64 (cr), vcd]), (1, vx), (2, vy), (3, .pointer (some ⟨g1, 0, none⟩)), (6, .int .i64 (0)), (7, .agg #[.int .i64 (cr), vcd]), (8, vy), (9, .bool (isRt cr cd y)), (10, .bool false), (11, .bool false)]) (⟨rfl, rfl, rfl, rfl, rfl, rfl, rfl, rfl, (congrArg (fun b => some (Value.bool b)) hg2e), (congrArg (fun b => some (Value.bool b)) hg2e), trivial⟩) rfl ?_
 replace hg2 := eq_true_of_not hg2
 refine G.stepGD (OD.loadAgg rfl ti27 rfl (i := 0) rfl (us := [.int .i64 (cr), vcd]) rfl rfl) rfl rfl rfl rfl rfl ?_
 refine G.stepGD (OD.move rfl rfl) rfl rfl rfl rfl rfl ?_
 refine G.stepG (OG.call [.agg #[.int .i64 (cr), vcd], vx] ent81 rfl rfl rfl rfl (by exact (isWeight_w scd (Ent.drop 1 ecd) sx (Ent.drop 1 ex) (by omega)))) rfl rfl rfl rfl rfl ?_
 rintro _ _ ⟨rfl, rfl⟩
 refine G.stepGD (OD.not rfl rfl) rfl rfl rfl rfl rfl ?_
 refine G.stepD (OD.pickF rfl rfl rfl) rfl rfl rfl ?_
 refine G.nil (GE.then_ ?_)
 refine GC.cond rfl (fun hc3 => ?_) (fun hc3 => ?_)
 replace hc3 := eq_false_of_not hc3
 refine GC.seq (GC.region ?_)
 refine G.stepD (OD.assign rfl rfl) rfl rfl rfl ?_
 refine G.nil (GE.then_ (GC.ret (GE.passR ?_)))
 exact GE.body [] 1 (res1 rfl rfl) rfl (⟨congrArg (fun (a0 : Int) => (.int .i64 (a0) : Value)) ((by rw [prOf, hg2, hc3] <;> rfl : (0 : Int) = prOf cr cd x y)), rfl⟩)
 replace hc3 := eq_true_of_not hc3
 have h2y := rt_two (isRt_wt h64y hg2).1 (isRt_wt h64y hg2).2.1 (isRt_wt h64y hg2).2.2
 have hby := inF_bd (isRt_wt h64y hg2).1 (isRt_wt h64y hg2).2.1 (isRt_wt h64y hg2).2.1
 have hyl := wtOk_len (isRt_wt h64y hg2).2.1
 have hbx := inF_bd (isRt_wt h64y hg2).1 hc3 (isRt_wt h64y hg2).2.1
 have hxl := wtOk_len hc3
 refine GC.skip (GE.then_ (GC.seq ?_))
 refine GC.at [] 0 (env' := [(1, vx), (2, vy), (3, .pointer (some ⟨g1, 0, none⟩)), (6, .int .i64 (0))]) ⟨rfl, rfl, rfl, rfl, trivial⟩ rfl ?_
 refine GC.par (its := [⟨17, [], [], [], [], fun _ => .agg #[.int .i64 (cr), vcd], fun _ => True, fun _ => []⟩,
     ⟨18, [], [], [], [], fun _ => vx, fun _ => True, fun _ => []⟩,
     ⟨19, [], [], [], [], fun _ => vy, fun _ => True, fun _ => []⟩,
     ⟨20, [(0, 17), (1, 18), (2, 19)], [], [], [], fun _ => .int .i64 (inF cr cd x y), fun _ => True, fun _ => []⟩,
     ⟨21, [(3, 20)], [], [], [], fun _ => .int .i64 (IntKind.i64.wrap (2 * (inF cr cd x y))), fun _ => True, fun _ => []⟩,
     ⟨22, [], [], [], [], fun _ => .agg #[.int .i64 (cr), vcd], fun _ => True, fun _ => []⟩,
     ⟨23, [], [], [], [], fun _ => vy, fun _ => True, fun _ => []⟩,
     ⟨24, [], [], [], [], fun _ => vy, fun _ => True, fun _ => []⟩,
     ⟨25, [(5, 22), (6, 23), (7, 24)], [], [], [], fun _ => .int .i64 (inF cr cd y y), fun _ => True, fun _ => []⟩,
     ⟨26, [(4, 21), (8, 25)], [], [], [], fun _ => .int .i64 (IntKind.i64.wrap ((IntKind.i64.wrap (2 * (inF cr cd x y))).tdiv (inF cr cd y y))), fun _ => True, fun _ => []⟩]) (by kernel_rfl) (by kernel_rfl) (POps.cons ?_ (POps.cons ?_ (POps.cons ?_ (POps.cons ?_ (POps.cons ?_ (POps.cons ?_ (POps.cons ?_ (POps.cons ?_ (POps.cons ?_ (POps.cons ?_ POps.nil)))))))))) ?_
 intro θ R hd
 exact Opp.plain (OG.imp (OD.loadAgg rfl ti27 rfl (i := 0) rfl (us := [.int .i64 (cr), vcd]) rfl rfl) (by exact fun _ _ h=>pk h rfl trivial rfl)) rfl
 intro θ R hd
 exact Opp.plain (OG.imp (OD.move rfl rfl) (by exact fun _ _ h=>pk h rfl trivial rfl)) rfl
 intro θ R hd
 exact Opp.plain (OG.imp (OD.move rfl rfl) (by exact fun _ _ h=>pk h rfl trivial rfl)) rfl
 rintro θ R ⟨h0d, h1d, h2d, _⟩
 exact Opp.plain (OG.imp (OG.call [.agg #[.int .i64 (cr), vcd], vx, vy] ent110 rfl rfl rfl rfl (by exact (inner_w scd (Ent.drop 1 ecd.app) sx (Ent.drop 1 ex.app) sy (Ent.drop 1 ey.app) ((isRt_wt h64y hg2).1) ((wtOk_len hc3)) ((wtOk_len (isRt_wt h64y hg2).2.1))))) (by exact fun _ _ h=>pk h rfl trivial rfl)) rfl
 rintro θ R ⟨h3d, _⟩
 exact Opp.plain (OG.imp (OD.mul rfl rfl rfl) (by exact fun _ _ h=>pk h rfl trivial rfl)) rfl
 intro θ R hd
 exact Opp.plain (OG.imp (OD.loadAgg rfl ti27 rfl (i := 0) rfl (us := [.int .i64 (cr), vcd]) rfl rfl) (by exact fun _ _ h=>pk h rfl trivial rfl)) rfl
 intro θ R hd
 exact Opp.plain (OG.imp (OD.move rfl rfl) (by exact fun _ _ h=>pk h rfl trivial rfl)) rfl
 intro θ R hd
 exact Opp.plain (OG.imp (OD.move rfl rfl) (by exact fun _ _ h=>pk h rfl trivial rfl)) rfl
 rintro θ R ⟨h5d, h6d, h7d, _⟩
 exact Opp.plain (OG.imp (OG.call [.agg #[.int .i64 (cr), vcd], vy, vy] ent110 rfl rfl rfl rfl (by exact (inner_w scd (Ent.drop 1 ecd.app) sy (Ent.drop 1 ey.app) sy (Ent.drop 1 ey.app) ((isRt_wt h64y hg2).1) ((wtOk_len (isRt_wt h64y hg2).2.1)) ((wtOk_len (isRt_wt h64y hg2).2.1))))) (by exact fun _ _ h=>pk h rfl trivial rfl)) rfl
 rintro θ R ⟨h4d, h8d, _⟩
 exact Opp.plain (OG.imp (OD.quo rfl rfl rfl (by omega)) (by exact fun _ _ h=>pk h rfl trivial rfl)) rfl
 intro θ hall
 obtain ⟨_, _, _, _, _, _, _, _, _, _, _⟩ := hall
 refine G.at [] 0 (env' := [(6, .int .i64 (0)), (26, .int .i64 (IntKind.i64.wrap ((IntKind.i64.wrap (2 * (inF cr cd x y))).tdiv (inF cr cd y y))))]) ⟨rfl, rfl, trivial⟩ (own' := box g1 27 [.int .i64 (cr), vcd] :: own) rfl ?_
 show G _ _ _ [_] _ _ _ _
 refine G.stepD (OD.assign rfl rfl) rfl rfl rfl ?_
 refine G.nil (GE.then_ (GC.ret ?_))
 exact GE.body [] 1 (res1 rfl rfl) rfl (⟨congrArg (fun (a0 : Int) => (.int .i64 (a0) : Value)) ((by rw [prOf, hg2, hc3] <;> rfl : (IntKind.i64.wrap ((IntKind.i64.wrap (2 * (inF cr cd x y))).tdiv (inF cr cd y y)) : Int) = prOf cr cd x y)), rfl⟩)
end Go.Proofs.YtgelkakjmbiibaaGreatDoor
