/-
  Reflections by roots: contracts by walks.
-/
import Derived.Test.YteflhcbnajeooaaGreatDoorWPrs
namespace Go.Proofs.YteflhcbnajeooaaGreatDoor
set_option linter.unusedVariables false
set_option linter.unusedSimpArgs false
open Go.RowKit

theorem ent17 : ∀ us w, (callFunc 17 us).run Tryz.prog w = .ok (.enter 17 us) w := fun us w => by kernel_rfl
theorem ent19 : ∀ us w, (callFunc 19 us).run Tryz.prog w = .ok (.enter 19 us) w := fun us w => by kernel_rfl
theorem ent33 : ∀ us w, (callFunc 33 us).run Tryz.prog w = .ok (.enter 33 us) w := fun us w => by kernel_rfl
theorem ent34 : ∀ us w, (callFunc 34 us).run Tryz.prog w = .ok (.enter 34 us) w := fun us w => by kernel_rfl
theorem ent61 : ∀ us w, (callFunc 61 us).run Tryz.prog w = .ok (.enter 61 us) w := fun us w => by kernel_rfl

set_option maxRecDepth 100000 in
theorem specReflectBy_w {W : World} {own : List Asn} {cr : Int} {vcd : Value} {cd : List Int} {vy : Value} {y : List Int} {vx : Value} {x : List Int}  (scd : IsS vcd) (ecd : Ent own fun w => Ints w vcd cd)   (sy : IsS vy) (ey : Ent own fun w => Ints w vy y)   (sx : IsS vx) (ex : Ent own fun w => Ints w vx x)  (hl0 : cd.length ≤ 1073741824) (hlx : x.length ≤ 1073741824) (hly : y.length ≤ 1073741824) (h64y : All64 y) : Spec Tryz.prog 33 [.agg #[.int .i64 (cr), vcd], vy, vx] W own (fun v ow => ∃ (r0 : Value), v = r0 ∧ IsS r0 ∧ ow = ints 3 r0 (rbOf cr cd y x) :: own) := by
 refine Spec.enter Tryz.f33 _ Tryz.func33 rfl (n := 25) rfl rfl ?_
 refine GC.seq (GC.region ?_)
 refine G.step (OG.box (cs := [.int .i64 (cr), vcd]) rfl rfl rfl) rfl rfl rfl ?_
 rintro _ _ ⟨g1, rfl, rfl⟩
 refine G.stepD (OD.assign rfl rfl) rfl rfl rfl ?_
 refine G.nil (GE.then_ (GC.seq (GC.seq (GC.region ?_))))
 refine G.stepD (OD.loadAgg rfl ti28 rfl (i := 0) rfl (us := [.int .i64 (cr), vcd]) rfl rfl) rfl rfl rfl ?_
 refine G.stepD (OD.move rfl rfl) rfl rfl rfl ?_
 refine G.step (OG.call [.agg #[.int .i64 (cr), vcd], vy] ent20 rfl rfl rfl rfl (by exact (specIsRoot_w scd (Ent.drop 1 ecd) sy (Ent.drop 1 ey) (hl0) (by omega) (h64y)))) rfl rfl rfl ?_
 rintro _ _ ⟨rfl, rfl⟩
 refine G.stepD (OD.not rfl rfl) rfl rfl rfl ?_
 refine G.stepD (OD.move rfl rfl) rfl rfl rfl ?_
 rcases Bool.eq_false_or_eq_true (!(isRt cr cd y)) with hg2 | hg2
 have hg2e := hg2
 refine G.at [] 0 (env' := [(0, .agg #[.int .i64 (cr), vcd]), (1, vy), (2, vx), (3, .pointer (some ⟨g1, 0, none⟩)), (6, .slice none 0 0), (7, .agg #[.int .i64 (cr), vcd]), (8, vy), (9, .bool (isRt cr cd y)), (10, .bool true), (11, .bool true)]) (⟨rfl, rfl, rfl, rfl, rfl, rfl, rfl, rfl, (congrArg (fun b => some (Value.bool b)) hg2e), (congrArg (fun b => some (Value.bool b)) hg2e), trivial⟩) rfl ?_
 replace hg2 := eq_false_of_not hg2
 refine G.skipG rfl rfl rfl rfl rfl rfl (G.skipG rfl rfl rfl rfl rfl rfl (G.skipG rfl rfl rfl rfl rfl rfl (G.skipG rfl rfl rfl rfl rfl rfl ?_)))
 refine G.stepD (OD.pickT rfl rfl rfl) rfl rfl rfl ?_
 refine G.nil (GE.then_ (GC.condT rfl (GC.seq (GC.region ?_))))
 refine G.stepD (OD.assign rfl rfl) rfl rfl rfl ?_
 refine G.nil (GE.then_ (GC.ret (GE.passR ?_)))
 refine GE.nilInts 3 ?_
 exact GE.body [0] 1 (res1 rfl rfl) rfl (⟨(.slice none 0 0), rfl, IsS.nil, congrArg (fun (l0 : List Int) => ints 3 (.slice none 0 0) l0 :: own) ((by rw [rbOf, hg2] <;> rfl : [] = rbOf cr cd y x))⟩)
 have hg2e := hg2
 refine G.at [] 0 (env' := [(0, .agg #[.int .i64 (cr), vcd]), (1, vy), (2, vx), (3, .pointer (some ⟨g1, 0, none⟩)), (6, .slice none 0 0), (7, .agg #[.int .i64 (cr), vcd]), (8, vy), (9, .bool (isRt cr cd y)), (10, .bool false), (11, .bool false)]) (⟨rfl, rfl, rfl, rfl, rfl, rfl, rfl, rfl, (congrArg (fun b => some (Value.bool b)) hg2e), (congrArg (fun b => some (Value.bool b)) hg2e), trivial⟩) rfl ?_
 replace hg2 := eq_true_of_not hg2
 refine G.stepGD (OD.loadAgg rfl ti28 rfl (i := 0) rfl (us := [.int .i64 (cr), vcd]) rfl rfl) rfl rfl rfl rfl rfl ?_
 refine G.stepGD (OD.move rfl rfl) rfl rfl rfl rfl rfl ?_
 refine G.stepG (OG.call [.agg #[.int .i64 (cr), vcd], vx] ent43 rfl rfl rfl rfl (by exact (l5Lattice_w scd (Ent.drop 1 ecd) sx (Ent.drop 1 ex) (by omega)))) rfl rfl rfl rfl rfl ?_
 rintro _ _ ⟨rfl, rfl⟩
 refine G.stepGD (OD.not rfl rfl) rfl rfl rfl rfl rfl ?_
 refine G.stepD (OD.pickF rfl rfl rfl) rfl rfl rfl ?_
 refine G.nil (GE.then_ ?_)
 refine GC.cond rfl (fun hc3 => ?_) (fun hc3 => ?_)
 replace hc3 := eq_false_of_not hc3
 refine GC.seq (GC.region ?_)
 refine G.stepD (OD.assign rfl rfl) rfl rfl rfl ?_
 refine G.nil (GE.then_ (GC.ret (GE.passR ?_)))
 refine GE.nilInts 3 ?_
 exact GE.body [0] 1 (res1 rfl rfl) rfl (⟨(.slice none 0 0), rfl, IsS.nil, congrArg (fun (l0 : List Int) => ints 3 (.slice none 0 0) l0 :: own) ((by rw [rbOf, hg2, hc3] <;> rfl : [] = rbOf cr cd y x))⟩)
 replace hc3 := eq_true_of_not hc3
 have h2y := rt_two (isRt_wt h64y hg2).1 (isRt_wt h64y hg2).2.1 (isRt_wt h64y hg2).2.2
 have hby := inF_bd (isRt_wt h64y hg2).1 (isRt_wt h64y hg2).2.1 (isRt_wt h64y hg2).2.1
 have hyl := wtOk_len (isRt_wt h64y hg2).2.1
 have hbx := inF_bd (isRt_wt h64y hg2).1 hc3 (isRt_wt h64y hg2).2.1
 have hxl := wtOk_len hc3
 refine GC.skip (GE.then_ (GC.seq (GC.region ?_)))
 refine G.stepD (OD.move rfl rfl) rfl rfl rfl ?_
 refine G.stepD (OD.loadAgg rfl ti28 rfl (i := 0) rfl (us := [.int .i64 (cr), vcd]) rfl rfl) rfl rfl rfl ?_
 refine G.stepD (OD.move rfl rfl) rfl rfl rfl ?_
 refine G.stepD (OD.move rfl rfl) rfl rfl rfl ?_
 refine G.step (OG.call [.agg #[.int .i64 (cr), vcd], vx, vy] ent56 rfl rfl rfl rfl (by exact (l5Pair_w scd (Ent.drop 1 ecd) sx (Ent.drop 1 ex) sy (Ent.drop 1 ey) ((isRt_wt h64y hg2).1) ((wtOk_len hc3)) ((wtOk_len (isRt_wt h64y hg2).2.1)) (h2y)))) rfl rfl rfl ?_
 rintro _ _ ⟨rfl, rfl⟩
 refine G.stepD (OD.eqv (OD.sub rfl rfl rfl) (congrArg (Value.int .i64) ((refl_k hbx h2y) : (IntKind.i64.wrap (0 - (prF cr cd x y)) : Int) = (rbK cr cd x y)))) rfl rfl rfl ?_
 refine G.stepD (OD.move rfl rfl) rfl rfl rfl ?_
 refine G.step (OG.call [vx, .int .i64 (rbK cr cd x y), vy] ent61 rfl rfl rfl rfl (by exact (l5Plus_w sx (Ent.drop 1 ex) sy (Ent.drop 1 ey) (by omega) (by omega)))) rfl rfl rfl ?_
 rintro v4 _ ⟨_, rfl, hs5, rfl⟩
 refine G.stepD (OD.assign rfl rfl) rfl rfl rfl ?_
 refine G.nil (GE.then_ (GC.ret ?_))
 exact GE.body [0] 1 (res1 rfl rfl) rfl (⟨v4, rfl, hs5, congrArg (fun (l0 : List Int) => ints 3 v4 l0 :: own) ((by rw [rbOf, hg2, hc3] <;> rfl : lpF x (rbK cr cd x y) y = rbOf cr cd y x))⟩)

set_option maxRecDepth 100000 in
theorem reflectBy_w {W : World} {own : List Asn} {cr : Int} {vcd : Value} {cd : List Int} {vy : Value} {y : List Int} {vx : Value} {x : List Int}  (scd : IsS vcd) (ecd : Ent own fun w => Ints w vcd cd)   (sy : IsS vy) (ey : Ent own fun w => Ints w vy y)   (sx : IsS vx) (ex : Ent own fun w => Ints w vx x)  (hl0 : cd.length ≤ 1073741824) (hlx : x.length ≤ 1073741824) (hly : y.length ≤ 1073741824) (h64y : All64 y) (hg : Ent own fun w => ∃ m, w.cell? ⟨Tryz.l146_ren.g 1, 0, none⟩ = some (.int .i64 m)) (htab : Ent own Pow10) : Spec Tryz.prog 34 [.agg #[.int .i64 (cr), vcd], vy, vx] W own (fun v ow => ∃ (r0 : Value), v = r0 ∧ IsS r0 ∧ ow = ints 3 r0 (rbOf cr cd y x) :: own) := by
 refine Spec.enter Tryz.f34 _ Tryz.func34 rfl (n := 30) rfl rfl ?_
 refine GC.seq (GC.region ?_)
 refine G.step (OG.box (cs := [.int .i64 (cr), vcd]) rfl rfl rfl) rfl rfl rfl ?_
 rintro _ _ ⟨g1, rfl, rfl⟩
 refine G.stepD (OD.assign rfl rfl) rfl rfl rfl ?_
 refine G.nil (GE.then_ (GC.seq (GC.seq (GC.region ?_))))
 refine G.stepD (OD.loadAgg rfl ti28 rfl (i := 0) rfl (us := [.int .i64 (cr), vcd]) rfl rfl) rfl rfl rfl ?_
 refine G.stepD (OD.move rfl rfl) rfl rfl rfl ?_
 refine G.step (OG.call [.agg #[.int .i64 (cr), vcd], vy] ent22 rfl rfl rfl rfl (by exact (isRoot_w scd (Ent.drop 1 ecd) sy (Ent.drop 1 ey) (hl0) (by omega) (h64y) ((Ent.drop 1 hg)) ((Ent.drop 1 htab))))) rfl rfl rfl ?_
 rintro _ _ ⟨rfl, rfl⟩
 refine G.stepD (OD.not rfl rfl) rfl rfl rfl ?_
 refine G.stepD (OD.move rfl rfl) rfl rfl rfl ?_
 rcases Bool.eq_false_or_eq_true (!(isRt cr cd y)) with hg2 | hg2
 have hg2e := hg2
 refine G.at [] 0 (env' := [(0, .agg #[.int .i64 (cr), vcd]), (1, vy), (2, vx), (3, .pointer (some ⟨g1, 0, none⟩)), (6, .slice none 0 0), (7, .agg #[.int .i64 (cr), vcd]), (8, vy), (9, .bool (isRt cr cd y)), (10, .bool true), (11, .bool true)]) (⟨rfl, rfl, rfl, rfl, rfl, rfl, rfl, rfl, (congrArg (fun b => some (Value.bool b)) hg2e), (congrArg (fun b => some (Value.bool b)) hg2e), trivial⟩) rfl ?_
 replace hg2 := eq_false_of_not hg2
 refine G.skipG rfl rfl rfl rfl rfl rfl (G.skipG rfl rfl rfl rfl rfl rfl (G.skipG rfl rfl rfl rfl rfl rfl (G.skipG rfl rfl rfl rfl rfl rfl ?_)))
 refine G.stepD (OD.pickT rfl rfl rfl) rfl rfl rfl ?_
 refine G.nil (GE.then_ (GC.condT rfl (GC.seq (GC.region ?_))))
 refine G.stepD (OD.assign rfl rfl) rfl rfl rfl ?_
 refine G.nil (GE.then_ (GC.ret (GE.passR ?_)))
 refine GE.nilInts 3 ?_
 exact GE.body [0] 1 (res1 rfl rfl) rfl (⟨(.slice none 0 0), rfl, IsS.nil, congrArg (fun (l0 : List Int) => ints 3 (.slice none 0 0) l0 :: own) ((by rw [rbOf, hg2] <;> rfl : [] = rbOf cr cd y x))⟩)
 have hg2e := hg2
 refine G.at [] 0 (env' := [(0, .agg #[.int .i64 (cr), vcd]), (1, vy), (2, vx), (3, .pointer (some ⟨g1, 0, none⟩)), (6, .slice none 0 0), (7, .agg #[.int .i64 (cr), vcd]), (8, vy), (9, .bool (isRt cr cd y)), (10, .bool false), (11, .bool false)]) (⟨rfl, rfl, rfl, rfl, rfl, rfl, rfl, rfl, (congrArg (fun b => some (Value.bool b)) hg2e), (congrArg (fun b => some (Value.bool b)) hg2e), trivial⟩) rfl ?_
 replace hg2 := eq_true_of_not hg2
 refine G.stepGD (OD.loadAgg rfl ti28 rfl (i := 0) rfl (us := [.int .i64 (cr), vcd]) rfl rfl) rfl rfl rfl rfl rfl ?_
 refine G.stepGD (OD.move rfl rfl) rfl rfl rfl rfl rfl ?_
 refine G.stepG (OG.call [.agg #[.int .i64 (cr), vcd], vx] ent57 rfl rfl rfl rfl (by exact (isWeight_w scd (Ent.drop 1 ecd) sx (Ent.drop 1 ex) (by omega)))) rfl rfl rfl rfl rfl ?_
 rintro _ _ ⟨rfl, rfl⟩
 refine G.stepGD (OD.not rfl rfl) rfl rfl rfl rfl rfl ?_
 refine G.stepD (OD.pickF rfl rfl rfl) rfl rfl rfl ?_
 refine G.nil (GE.then_ ?_)
 refine GC.cond rfl (fun hc3 => ?_) (fun hc3 => ?_)
 replace hc3 := eq_false_of_not hc3
 refine GC.seq (GC.region ?_)
 refine G.stepD (OD.assign rfl rfl) rfl rfl rfl ?_
 refine G.nil (GE.then_ (GC.ret (GE.passR ?_)))
 refine GE.nilInts 3 ?_
 exact GE.body [0] 1 (res1 rfl rfl) rfl (⟨(.slice none 0 0), rfl, IsS.nil, congrArg (fun (l0 : List Int) => ints 3 (.slice none 0 0) l0 :: own) ((by rw [rbOf, hg2, hc3] <;> rfl : [] = rbOf cr cd y x))⟩)
 replace hc3 := eq_true_of_not hc3
 have h2y := rt_two (isRt_wt h64y hg2).1 (isRt_wt h64y hg2).2.1 (isRt_wt h64y hg2).2.2
 have hby := inF_bd (isRt_wt h64y hg2).1 (isRt_wt h64y hg2).2.1 (isRt_wt h64y hg2).2.1
 have hyl := wtOk_len (isRt_wt h64y hg2).2.1
 have hbx := inF_bd (isRt_wt h64y hg2).1 hc3 (isRt_wt h64y hg2).2.1
 have hxl := wtOk_len hc3
 refine GC.skip (GE.then_ (GC.seq ?_))
 refine GC.at [] 0 (env' := [(1, vy), (2, vx), (3, .pointer (some ⟨g1, 0, none⟩)), (6, .slice none 0 0)]) ⟨rfl, rfl, rfl, rfl, trivial⟩ rfl ?_
 refine GC.par (its := [⟨17, [], [], [], [], fun _ => vx, fun _ => True, fun _ => []⟩,
     ⟨18, [], [], [], [], fun _ => .agg #[.int .i64 (cr), vcd], fun _ => True, fun _ => []⟩,
     ⟨19, [], [], [], [], fun _ => vx, fun _ => True, fun _ => []⟩,
     ⟨20, [], [], [], [], fun _ => vy, fun _ => True, fun _ => []⟩,
     ⟨21, [(1, 18), (2, 19), (3, 20)], [], [], [], fun _ => .int .i64 (inF cr cd x y), fun _ => True, fun _ => []⟩,
     ⟨22, [(4, 21)], [], [], [], fun _ => .int .i64 (IntKind.i64.wrap ((-2) * (inF cr cd x y))), fun _ => True, fun _ => []⟩,
     ⟨23, [], [], [], [], fun _ => .agg #[.int .i64 (cr), vcd], fun _ => True, fun _ => []⟩,
     ⟨24, [], [], [], [], fun _ => vy, fun _ => True, fun _ => []⟩,
     ⟨25, [], [], [], [], fun _ => vy, fun _ => True, fun _ => []⟩,
     ⟨26, [(6, 23), (7, 24), (8, 25)], [], [], [], fun _ => .int .i64 (inF cr cd y y), fun _ => True, fun _ => []⟩,
     ⟨27, [(5, 22), (9, 26)], [], [], [], fun _ => .int .i64 (IntKind.i64.wrap ((IntKind.i64.wrap ((-2) * (inF cr cd x y))).tdiv (inF cr cd y y))), fun _ => True, fun _ => []⟩,
     ⟨28, [], [], [], [], fun _ => vy, fun _ => True, fun _ => []⟩,
     ⟨29, [(0, 17), (10, 27), (11, 28)], [], [], [12], fun ds => ((ds.getD 0 []).getD 0 undef), fun ds => IsS ((ds.getD 0 []).getD 0 undef), fun ds => [ints 3 ((ds.getD 0 []).getD 0 undef) (lpF x (IntKind.i64.wrap ((IntKind.i64.wrap ((-2) * (inF cr cd x y))).tdiv (inF cr cd y y))) y)]⟩]) (by kernel_rfl) (by kernel_rfl) (POps.cons ?_ (POps.cons ?_ (POps.cons ?_ (POps.cons ?_ (POps.cons ?_ (POps.cons ?_ (POps.cons ?_ (POps.cons ?_ (POps.cons ?_ (POps.cons ?_ (POps.cons ?_ (POps.cons ?_ (POps.cons ?_ POps.nil))))))))))))) ?_
 intro θ R hd
 exact Opp.plain (OG.imp (OD.move rfl rfl) (by rintro _ _ ⟨rfl, rfl⟩; exact ⟨[], rfl, trivial, rfl⟩)) rfl
 intro θ R hd
 exact Opp.plain (OG.imp (OD.loadAgg rfl ti28 rfl (i := 0) rfl (us := [.int .i64 (cr), vcd]) rfl rfl) (by rintro _ _ ⟨rfl, rfl⟩; exact ⟨[], rfl, trivial, rfl⟩)) rfl
 intro θ R hd
 exact Opp.plain (OG.imp (OD.move rfl rfl) (by rintro _ _ ⟨rfl, rfl⟩; exact ⟨[], rfl, trivial, rfl⟩)) rfl
 intro θ R hd
 exact Opp.plain (OG.imp (OD.move rfl rfl) (by rintro _ _ ⟨rfl, rfl⟩; exact ⟨[], rfl, trivial, rfl⟩)) rfl
 intro θ R hd
 obtain ⟨h1d, h2d, h3d, _⟩ := hd
 exact Opp.plain (OG.imp (OG.call [.agg #[.int .i64 (cr), vcd], vx, vy] ent58 rfl rfl rfl rfl (by exact (inner_w scd (Ent.drop 1 ecd.app) sx (Ent.drop 1 ex.app) sy (Ent.drop 1 ey.app) ((isRt_wt h64y hg2).1) ((wtOk_len hc3)) ((wtOk_len (isRt_wt h64y hg2).2.1))))) (by rintro _ _ ⟨rfl, rfl⟩; exact ⟨[], rfl, trivial, rfl⟩)) rfl
 intro θ R hd
 obtain ⟨h4d, _⟩ := hd
 exact Opp.plain (OG.imp (OD.mul rfl rfl rfl) (by rintro _ _ ⟨rfl, rfl⟩; exact ⟨[], rfl, trivial, rfl⟩)) rfl
 intro θ R hd
 exact Opp.plain (OG.imp (OD.loadAgg rfl ti28 rfl (i := 0) rfl (us := [.int .i64 (cr), vcd]) rfl rfl) (by rintro _ _ ⟨rfl, rfl⟩; exact ⟨[], rfl, trivial, rfl⟩)) rfl
 intro θ R hd
 exact Opp.plain (OG.imp (OD.move rfl rfl) (by rintro _ _ ⟨rfl, rfl⟩; exact ⟨[], rfl, trivial, rfl⟩)) rfl
 intro θ R hd
 exact Opp.plain (OG.imp (OD.move rfl rfl) (by rintro _ _ ⟨rfl, rfl⟩; exact ⟨[], rfl, trivial, rfl⟩)) rfl
 intro θ R hd
 obtain ⟨h6d, h7d, h8d, _⟩ := hd
 exact Opp.plain (OG.imp (OG.call [.agg #[.int .i64 (cr), vcd], vy, vy] ent58 rfl rfl rfl rfl (by exact (inner_w scd (Ent.drop 1 ecd.app) sy (Ent.drop 1 ey.app) sy (Ent.drop 1 ey.app) ((isRt_wt h64y hg2).1) ((wtOk_len (isRt_wt h64y hg2).2.1)) ((wtOk_len (isRt_wt h64y hg2).2.1))))) (by rintro _ _ ⟨rfl, rfl⟩; exact ⟨[], rfl, trivial, rfl⟩)) rfl
 intro θ R hd
 obtain ⟨h5d, h9d, _⟩ := hd
 exact Opp.plain (OG.imp (OD.quo rfl rfl rfl (by omega)) (by rintro _ _ ⟨rfl, rfl⟩; exact ⟨[], rfl, trivial, rfl⟩)) rfl
 intro θ R hd
 exact Opp.plain (OG.imp (OD.move rfl rfl) (by rintro _ _ ⟨rfl, rfl⟩; exact ⟨[], rfl, trivial, rfl⟩)) rfl
 intro θ R hd
 obtain ⟨h0d, h10d, h11d, _⟩ := hd
 exact Opp.plain (OG.imp (OG.call [vx, .int .i64 (IntKind.i64.wrap ((IntKind.i64.wrap ((-2) * (inF cr cd x y))).tdiv (inF cr cd y y))), vy] ent62 rfl rfl rfl rfl (by exact (listPlus_w sx (Ent.drop 1 ex.app) sy (Ent.drop 1 ey.app) (by omega) (by omega)))) (by rintro v4 _ ⟨_, rfl, hs5, rfl⟩; exact ⟨[v4], rfl, hs5, rfl⟩)) rfl
 intro θ hall
 obtain ⟨_, _, _, _, _, _, _, _, _, _, _, _, h12a, _⟩ := hall
 refine G.at [] 0 (env' := [(6, .slice none 0 0), (29, ((θ 12).getD 0 undef))]) ⟨rfl, rfl, trivial⟩ (own' := ints 3 ((θ 12).getD 0 undef) (lpF x (IntKind.i64.wrap ((IntKind.i64.wrap ((-2) * (inF cr cd x y))).tdiv (inF cr cd y y))) y) :: box g1 28 [.int .i64 (cr), vcd] :: own) rfl ?_
 have hs6 : IsS ((θ 12).getD 0 undef) := h12a
 clear h12a
 generalize ((θ 12).getD 0 undef) = v7 at *
 show G _ _ _ [_] _ _ _ _
 refine G.stepD (OD.assign rfl rfl) rfl rfl rfl ?_
 refine G.nil (GE.then_ (GC.ret ?_))
 exact GE.body [0] 1 (res1 rfl rfl) rfl (⟨v7, rfl, hs6, congrArg (fun (l0 : List Int) => ints 3 v7 l0 :: own) ((by rw [rbOf, hg2, hc3] <;> rfl : lpF x (IntKind.i64.wrap ((IntKind.i64.wrap ((-2) * (inF cr cd x y))).tdiv (inF cr cd y y))) y = rbOf cr cd y x))⟩)

set_option maxHeartbeats 4000000 in
set_option maxRecDepth 100000 in
theorem lawReflectBy {W : World} {own : List Asn} {cr : Int} {vcd : Value} {cd : List Int} {vy : Value} {y : List Int} {vx : Value} {x : List Int}  (scd : IsS vcd) (ecd : Ent own fun w => Ints w vcd cd)   (sy : IsS vy) (ey : Ent own fun w => Ints w vy y)   (sx : IsS vx) (ex : Ent own fun w => Ints w vx x)  (hcd : cd.length ≤ 9223372036854775807) (hy : y.length ≤ 9223372036854775807) (hx : x.length ≤ 9223372036854775807) (h64y : All64 y) (h64x : All64 x) (hg : Ent own fun w => ∃ m, w.cell? ⟨Tryz.l146_ren.g 1, 0, none⟩ = some (.int .i64 m)) (htab : Ent own Pow10) : Spec Tryz.prog 10 [.agg #[.int .i64 (cr), vcd], vy, vx] W own (fun v ow => v = .bool (true) ∧ ow = own) := by
 have hrl := rbOf_len cr cd y x
 refine Spec.enter Tryz.f10 _ Tryz.func10 rfl (n := 111) rfl rfl ?_
 refine GC.seq (GC.region ?_)
 refine G.step (OG.box (cs := [.int .i64 (cr), vcd]) rfl rfl rfl) rfl rfl rfl ?_
 rintro _ _ ⟨g1, rfl, rfl⟩
 refine G.stepD (OD.assign rfl rfl) rfl rfl rfl ?_
 refine G.nil (GE.then_ (GC.seq (GC.seq (GC.region ?_))))
 refine G.stepD (OD.move rfl rfl) rfl rfl rfl ?_
 refine G.stepD (OD.len rfl rfl et22 rfl (Ent.drop 1 ey)) rfl rfl rfl ?_
 refine G.stepD (OD.gtr rfl rfl rfl) rfl rfl rfl ?_
 refine G.nil (GE.then_ ?_)
 refine GC.cond rfl (fun hc2 => ?_) (fun hc2 => ?_)
 replace hc2 := of_decide_eq_true hc2
 refine GC.seq (GC.region ?_)
 refine G.stepD (OD.assign rfl rfl) rfl rfl rfl ?_
 refine G.nil (GE.then_ (GC.ret (GE.passR ?_)))
 exact GE.body [] 1 (res1 rfl rfl) rfl (⟨rfl, rfl⟩)
 replace hc2 := of_decide_eq_false hc2
 refine GC.skip (GE.then_ (GC.seq (GC.seq (GC.region ?_))))
 refine G.stepD (OD.move rfl rfl) rfl rfl rfl ?_
 refine G.stepD (OD.len rfl rfl et22 rfl (Ent.drop 1 ex)) rfl rfl rfl ?_
 refine G.stepD (OD.gtr rfl rfl rfl) rfl rfl rfl ?_
 refine G.nil (GE.then_ ?_)
 refine GC.cond rfl (fun hc3 => ?_) (fun hc3 => ?_)
 replace hc3 := of_decide_eq_true hc3
 refine GC.seq (GC.region ?_)
 refine G.stepD (OD.assign rfl rfl) rfl rfl rfl ?_
 refine G.nil (GE.then_ (GC.ret (GE.passR ?_)))
 exact GE.body [] 1 (res1 rfl rfl) rfl (⟨rfl, rfl⟩)
 replace hc3 := of_decide_eq_false hc3
 refine GC.skip (GE.then_ (GC.seq (GC.region ?_)))
 refine G.stepD (OD.assign rfl rfl) rfl rfl rfl ?_
 refine G.nil (GE.then_ (GC.seq (GC.region ?_)))
 refine G.stepD (OD.loadAgg rfl ti24 rfl (i := 0) rfl (us := [.int .i64 (cr), vcd]) rfl rfl) rfl rfl rfl ?_
 refine G.stepD (OD.move rfl rfl) rfl rfl rfl ?_
 refine G.step (OG.call [.agg #[.int .i64 (cr), vcd], .int .i64 (1048576)] ent11 rfl rfl rfl rfl (by exact (szCartan_s scd (Ent.drop 1 ecd) (by omega) (by omega)))) rfl rfl rfl ?_
 rintro _ _ ⟨rfl, rfl⟩
 refine G.stepD (OD.assign rfl rfl) rfl rfl rfl ?_
 refine G.nil (GE.then_ (GC.seq (GC.seq (GC.region ?_))))
 refine G.stepD (OD.move rfl rfl) rfl rfl rfl ?_
 refine G.stepD (OD.lss rfl rfl rfl) rfl rfl rfl ?_
 refine G.nil (GE.then_ ?_)
 refine GC.cond rfl (fun hc4 => ?_) (fun hc4 => ?_)
 replace hc4 := of_decide_eq_true hc4
 refine GC.seq (GC.region ?_)
 refine G.stepD (OD.assign rfl rfl) rfl rfl rfl ?_
 refine G.nil (GE.then_ (GC.ret (GE.passR ?_)))
 exact GE.body [] 1 (res1 rfl rfl) rfl (⟨rfl, rfl⟩)
 replace hc4 := of_decide_eq_false hc4
 have hc4z := szG_ok hc4
 refine GC.skip (GE.then_ (GC.seq (GC.region ?_)))
 refine G.stepD (OD.loadAgg rfl ti24 rfl (i := 0) rfl (us := [.int .i64 (cr), vcd]) rfl rfl) rfl rfl rfl ?_
 refine G.step (OG.call [.agg #[.int .i64 (cr), vcd]] ent13 rfl rfl rfl rfl (by exact (toCartan_s scd (Ent.drop 1 ecd) (by omega)))) rfl rfl rfl ?_
 rintro _ _ ⟨v5, rfl, hs6, rfl⟩
 refine G.stepD (OD.move rfl rfl) rfl rfl rfl ?_
 refine G.step (OG.call [vy] ent21 rfl rfl rfl rfl (by exact (toIntS_s sy (Ent.drop 2 ey) (by omega)))) rfl rfl rfl ?_
 rintro v7 _ ⟨_, rfl, hs8, rfl⟩
 refine G.stepD (OD.move rfl rfl) rfl rfl rfl ?_
 refine G.step (OG.call [vx] ent21 rfl rfl rfl rfl (by exact (toIntS_s sx (Ent.drop 3 ex) (by omega)))) rfl rfl rfl ?_
 rintro v9 _ ⟨_, rfl, hs10, rfl⟩
 refine G.step (OG.call [.agg #[.int .i64 (cr), v5], v7, v9] ent33 rfl rfl rfl rfl (by exact (specReflectBy_w hs6 (Ent.ints (i := 2) rfl) hs8 (Ent.ints (i := 1) rfl) hs10 (Ent.ints (i := 0) rfl) (by omega) (by omega) (by omega) (h64y)))) rfl rfl rfl ?_
 rintro v11 _ ⟨_, rfl, hs12, rfl⟩
 refine G.stepD (OD.assign rfl rfl) rfl rfl rfl ?_
 refine G.nil (GE.then_ (GC.seq (GC.region ?_)))
 refine G.stepD (OD.loadAgg rfl ti24 rfl (i := 4) rfl (us := [.int .i64 (cr), vcd]) rfl rfl) rfl rfl rfl ?_
 refine G.step (OG.call [.agg #[.int .i64 (cr), vcd]] ent13 rfl rfl rfl rfl (by exact (toCartan_s scd (Ent.drop 5 ecd) (by omega)))) rfl rfl rfl ?_
 rintro _ _ ⟨v13, rfl, hs14, rfl⟩
 refine G.step (OG.alloc rfl ti28 (zs := [.int .i64 (0), .slice none 0 0]) rfl) rfl rfl rfl ?_
 rintro _ _ ⟨g15, rfl, rfl⟩
 refine G.stepD0 (OD.store rfl ti28 rfl rfl (us := [.int .i64 (cr), v13]) rfl rfl (allC rfl (allC (IsS.one hs14) rfl)) (i := 0) rfl rfl) rfl rfl ?_
 refine G.nil (GE.then_ (GC.seq (GC.region ?_)))
 refine G.stepD (OD.move rfl rfl) rfl rfl rfl ?_
 refine G.step (OG.call [vy] ent21 rfl rfl rfl rfl (by exact (toIntS_s sy (Ent.drop 7 ey) (by omega)))) rfl rfl rfl ?_
 rintro v16 _ ⟨_, rfl, hs17, rfl⟩
 refine G.stepD (OD.assign rfl rfl) rfl rfl rfl ?_
 refine G.nil (GE.then_ (GC.seq (GC.region ?_)))
 refine G.stepD (OD.move rfl rfl) rfl rfl rfl ?_
 refine G.step (OG.call [vx] ent21 rfl rfl rfl rfl (by exact (toIntS_s sx (Ent.drop 8 ex) (by omega)))) rfl rfl rfl ?_
 rintro v18 _ ⟨_, rfl, hs19, rfl⟩
 refine G.stepD (OD.assign rfl rfl) rfl rfl rfl ?_
 refine G.nil (GE.then_ (GC.seq (GC.region ?_)))
 refine G.stepD (OD.loadAgg rfl ti28 rfl (i := 2) rfl (us := [.int .i64 (cr), v13]) rfl rfl) rfl rfl rfl ?_
 refine G.stepD (OD.move rfl rfl) rfl rfl rfl ?_
 refine G.stepD (OD.move rfl rfl) rfl rfl rfl ?_
 refine G.step (OG.call [.agg #[.int .i64 (cr), v13], v16, v18] ent34 rfl rfl rfl rfl (by exact (reflectBy_w hs14 (Ent.ints (i := 3) rfl) hs17 (Ent.ints (i := 1) rfl) hs19 (Ent.ints (i := 0) rfl) (by omega) (by omega) (by omega) (h64y) ((Ent.drop 9 hg)) ((Ent.drop 9 htab))))) rfl rfl rfl ?_
 rintro v20 _ ⟨_, rfl, hs21, rfl⟩
 refine G.stepD (OD.assign rfl rfl) rfl rfl rfl ?_
 refine G.nil (GE.then_ (GC.seq (GC.seq (GC.region ?_))))
 refine G.stepD (OD.move rfl rfl) rfl rfl rfl ?_
 refine G.stepD (OD.move rfl rfl) rfl rfl rfl ?_
 refine G.step (OG.call [v20, v11] ent15 rfl rfl rfl rfl (by exact (eqIntS_same hs21 (Ent.ints (i := 0) rfl) hs12 (Ent.ints (i := 5) rfl) (by omega)))) rfl rfl rfl ?_
 rintro _ _ ⟨rfl, rfl⟩
 refine G.stepD (OD.not rfl rfl) rfl rfl rfl ?_
 refine G.nil (GE.then_ (GC.condF rfl (GC.skip (GE.then_ (GC.seq (GC.seq ?_))))))
 refine GC.at [] 0 (env' := [(1, vy), (2, vx), (3, .pointer (some ⟨g1, 0, none⟩)), (8, v11), (9, .pointer (some ⟨g15, 0, none⟩)), (10, v16), (11, v18), (12, v20)]) ⟨rfl, rfl, rfl, rfl, rfl, rfl, rfl, rfl, trivial⟩ rfl ?_
 refine GC.par (its := [⟨49, [], [], [], [], fun _ => .agg #[.int .i64 (cr), v13], fun _ => True, fun _ => []⟩,
     ⟨50, [], [], [], [], fun _ => .agg #[.int .i64 (cr), vcd], fun _ => True, fun _ => []⟩,
     ⟨51, [(1, 50)], [], [], [2], fun ds => .agg #[.int .i64 (cr), ((ds.getD 0 []).getD 0 undef)], fun ds => IsS ((ds.getD 0 []).getD 0 undef), fun ds => [ints 3 ((ds.getD 0 []).getD 0 undef) cd]⟩,
     ⟨52, [(0, 49), (2, 51)], [2], [], [2], fun _ => .bool true, fun _ => True, fun _ => []⟩,
     ⟨53, [(3, 52)], [2], [], [2], fun _ => .bool false, fun _ => True, fun _ => []⟩]) (by kernel_rfl) (by kernel_rfl) (POps.cons ?_ (POps.cons ?_ (POps.cons ?_ (POps.cons ?_ (POps.cons ?_ POps.nil))))) ?_
 intro θ R hd
 exact Opp.plain (OG.imp (OD.loadAgg rfl ti28 rfl (i := 3) rfl (us := [.int .i64 (cr), v13]) rfl rfl) (by rintro _ _ ⟨rfl, rfl⟩; exact ⟨[], rfl, trivial, rfl⟩)) rfl
 intro θ R hd
 exact Opp.plain (OG.imp (OD.loadAgg rfl ti24 rfl (i := 9) rfl (us := [.int .i64 (cr), vcd]) rfl rfl) (by rintro _ _ ⟨rfl, rfl⟩; exact ⟨[], rfl, trivial, rfl⟩)) rfl
 intro θ R hd
 obtain ⟨h1d, _⟩ := hd
 exact Opp.plain (OG.imp (OG.call [.agg #[.int .i64 (cr), vcd]] ent13 rfl rfl rfl rfl (by exact (toCartan_s scd (Ent.drop 10 ecd.app) (by omega)))) (by rintro _ _ ⟨v22, rfl, hs23, rfl⟩; exact ⟨[v22], rfl, hs23, rfl⟩)) rfl
 intro θ R hd
 obtain ⟨h0d, h2d, _⟩ := hd
 exact Opp.plain (OG.imp (OG.call [.agg #[.int .i64 (cr), v13], .agg #[.int .i64 (cr), ((θ 2).getD 0 undef)]] ent16 rfl rfl rfl rfl (by exact (eqCartan_same hs14 (Ent.ints (i := 5) rfl) h2d (Ent.ints (i := 0) rfl) (by omega)))) (by rintro _ _ ⟨rfl, rfl⟩; exact ⟨[], rfl, trivial, rfl⟩)) rfl
 intro θ R hd
 obtain ⟨h3d, _⟩ := hd
 exact Opp.plain (OG.imp (OD.not rfl rfl) (by rintro _ _ ⟨rfl, rfl⟩; exact ⟨[], rfl, trivial, rfl⟩)) rfl
 intro θ hall
 obtain ⟨_, _, h2a, _, _, _⟩ := hall
 refine G.at [] 0 (env' := [(1, vy), (2, vx), (3, .pointer (some ⟨g1, 0, none⟩)), (8, v11), (9, .pointer (some ⟨g15, 0, none⟩)), (10, v16), (11, v18), (12, v20), (53, .bool false)]) ⟨rfl, rfl, rfl, rfl, rfl, rfl, rfl, rfl, rfl, trivial⟩ (own' := ints 3 ((θ 2).getD 0 undef) cd :: ints 3 v20 (rbOf cr cd y x) :: ints 3 v18 x :: ints 3 v16 y :: box g15 28 [.int .i64 (cr), v13] :: ints 3 v13 cd :: ints 3 v11 (rbOf cr cd y x) :: ints 3 v9 x :: ints 3 v7 y :: ints 3 v5 cd :: box g1 24 [.int .i64 (cr), vcd] :: own) rfl ?_
 have hs24 : IsS ((θ 2).getD 0 undef) := h2a
 clear h2a
 generalize ((θ 2).getD 0 undef) = v25 at *
 show G _ _ _ [] _ _ _ _
 refine G.nil (GE.then_ (GC.condF rfl (GC.skip (GE.then_ (GC.seq (GC.seq (GC.region ?_)))))))
 refine G.stepD (OD.move rfl rfl) rfl rfl rfl ?_
 refine G.stepD (OD.move rfl rfl) rfl rfl rfl ?_
 refine G.step (OG.call [vy] ent21 rfl rfl rfl rfl (by exact (toIntS_s sy (Ent.drop 11 ey) (by omega)))) rfl rfl rfl ?_
 rintro v26 _ ⟨_, rfl, hs27, rfl⟩
 refine G.step (OG.call [v16, v26] ent15 rfl rfl rfl rfl (by exact (eqIntS_same hs17 (Ent.ints (i := 4) rfl) hs27 (Ent.ints (i := 0) rfl) (by omega)))) rfl rfl rfl ?_
 rintro _ _ ⟨rfl, rfl⟩
 refine G.stepD (OD.not rfl rfl) rfl rfl rfl ?_
 refine G.nil (GE.then_ (GC.condF rfl (GC.skip (GE.then_ (GC.seq (GC.seq (GC.region ?_)))))))
 refine G.stepD (OD.move rfl rfl) rfl rfl rfl ?_
 refine G.stepD (OD.move rfl rfl) rfl rfl rfl ?_
 refine G.step (OG.call [vx] ent21 rfl rfl rfl rfl (by exact (toIntS_s sx (Ent.drop 12 ex) (by omega)))) rfl rfl rfl ?_
 rintro v28 _ ⟨_, rfl, hs29, rfl⟩
 refine G.step (OG.call [v18, v28] ent15 rfl rfl rfl rfl (by exact (eqIntS_same hs19 (Ent.ints (i := 4) rfl) hs29 (Ent.ints (i := 0) rfl) (by omega)))) rfl rfl rfl ?_
 rintro _ _ ⟨rfl, rfl⟩
 refine G.stepD (OD.not rfl rfl) rfl rfl rfl ?_
 refine G.nil (GE.then_ (GC.condF rfl (GC.skip (GE.then_ (GC.seq (GC.region ?_))))))
 refine G.stepD (OD.assign rfl rfl) rfl rfl rfl ?_
 refine G.nil (GE.then_ (GC.seq (GC.region ?_)))
 refine G.stepD (OD.loadAgg rfl ti28 rfl (i := 6) rfl (us := [.int .i64 (cr), v13]) rfl rfl) rfl rfl rfl ?_
 refine G.stepD (OD.move rfl rfl) rfl rfl rfl ?_
 refine G.at [7] 0 (env' := [(1, vy), (2, vx), (3, .pointer (some ⟨g1, 0, none⟩)), (8, v11), (9, .pointer (some ⟨g15, 0, none⟩)), (10, v16), (11, v18), (12, v20), (53, .bool false), (54, v16), (55, vy), (56, v26), (57, .bool true), (58, .bool false), (59, v18), (60, vx), (61, v28), (62, .bool true), (63, .bool false), (13, .int .i64 (1)), (64, .agg #[.int .i64 (cr), v13]), (65, .int .i64 (1))]) ⟨rfl, rfl, rfl, rfl, rfl, rfl, rfl, rfl, rfl, rfl, rfl, rfl, rfl, rfl, rfl, rfl, rfl, rfl, rfl, rfl, rfl, rfl, trivial⟩ (own' := ints 3 v13 cd :: ints 3 v28 x :: ints 3 v26 y :: ints 3 v25 cd :: ints 3 v20 (rbOf cr cd y x) :: ints 3 v18 x :: ints 3 v16 y :: box g15 28 [.int .i64 (cr), v13] :: ints 3 v11 (rbOf cr cd y x) :: ints 3 v9 x :: ints 3 v7 y :: ints 3 v5 cd :: box g1 24 [.int .i64 (cr), vcd] :: own) rfl ?_
 refine G.step (OG.call [.agg #[.int .i64 (cr), v13], .int .i64 (1)] ent17 rfl rfl rfl rfl (by exact (markCartan_s hs14 (by omega) (by omega)))) rfl rfl rfl ?_
 rintro _ _ ⟨rfl, rfl⟩
 refine G.stepD (OD.assign rfl rfl) rfl rfl rfl ?_
 refine G.nil (GE.then_ (GC.seq (GC.region ?_)))
 refine G.stepD (OD.move rfl rfl) rfl rfl rfl ?_
 refine G.stepD (OD.move rfl rfl) rfl rfl rfl ?_
 refine G.at [6] 0 (env' := [(1, vy), (2, vx), (3, .pointer (some ⟨g1, 0, none⟩)), (8, v11), (9, .pointer (some ⟨g15, 0, none⟩)), (10, v16), (11, v18), (12, v20), (53, .bool false), (54, v16), (55, vy), (56, v26), (57, .bool true), (58, .bool false), (59, v18), (60, vx), (61, v28), (62, .bool true), (63, .bool false), (64, .agg #[.int .i64 (cr), v13]), (65, .int .i64 (1)), (66, .int .i64 (1 + (cd.length : Nat))), (13, .int .i64 (1 + (cd.length : Nat))), (67, v16), (68, .int .i64 (1 + (cd.length : Nat)))]) ⟨rfl, rfl, rfl, rfl, rfl, rfl, rfl, rfl, rfl, rfl, rfl, rfl, rfl, rfl, rfl, rfl, rfl, rfl, rfl, rfl, rfl, rfl, rfl, rfl, rfl, trivial⟩ (own' := ints 3 v16 y :: ints 3 v13 (mkd 1 cd.length) :: ints 3 v28 x :: ints 3 v26 y :: ints 3 v25 cd :: ints 3 v20 (rbOf cr cd y x) :: ints 3 v18 x :: box g15 28 [.int .i64 (cr), v13] :: ints 3 v11 (rbOf cr cd y x) :: ints 3 v9 x :: ints 3 v7 y :: ints 3 v5 cd :: box g1 24 [.int .i64 (cr), vcd] :: own) rfl ?_
 refine G.step (OG.call [v16, .int .i64 (1 + (cd.length : Nat))] ent18 rfl rfl rfl rfl (by exact (markIntS_s hs17 (by omega) (by omega)))) rfl rfl rfl ?_
 rintro _ _ ⟨rfl, rfl⟩
 refine G.stepD (OD.assign rfl rfl) rfl rfl rfl ?_
 refine G.nil (GE.then_ (GC.seq (GC.region ?_)))
 refine G.stepD (OD.move rfl rfl) rfl rfl rfl ?_
 refine G.stepD (OD.move rfl rfl) rfl rfl rfl ?_
 refine G.at [6] 0 (env' := [(1, vy), (2, vx), (3, .pointer (some ⟨g1, 0, none⟩)), (8, v11), (9, .pointer (some ⟨g15, 0, none⟩)), (10, v16), (11, v18), (12, v20), (53, .bool false), (54, v16), (55, vy), (56, v26), (57, .bool true), (58, .bool false), (59, v18), (60, vx), (61, v28), (62, .bool true), (63, .bool false), (64, .agg #[.int .i64 (cr), v13]), (65, .int .i64 (1)), (66, .int .i64 (1 + (cd.length : Nat))), (67, v16), (68, .int .i64 (1 + (cd.length : Nat))), (69, .int .i64 ((1 + (cd.length : Nat)) + (y.length : Nat))), (13, .int .i64 ((1 + (cd.length : Nat)) + (y.length : Nat))), (70, v18), (71, .int .i64 ((1 + (cd.length : Nat)) + (y.length : Nat)))]) ⟨rfl, rfl, rfl, rfl, rfl, rfl, rfl, rfl, rfl, rfl, rfl, rfl, rfl, rfl, rfl, rfl, rfl, rfl, rfl, rfl, rfl, rfl, rfl, rfl, rfl, rfl, rfl, rfl, trivial⟩ (own' := ints 3 v18 x :: ints 3 v16 (mkd (1 + (cd.length : Nat)) y.length) :: ints 3 v13 (mkd 1 cd.length) :: ints 3 v28 x :: ints 3 v26 y :: ints 3 v25 cd :: ints 3 v20 (rbOf cr cd y x) :: box g15 28 [.int .i64 (cr), v13] :: ints 3 v11 (rbOf cr cd y x) :: ints 3 v9 x :: ints 3 v7 y :: ints 3 v5 cd :: box g1 24 [.int .i64 (cr), vcd] :: own) rfl ?_
 refine G.step (OG.call [v18, .int .i64 ((1 + (cd.length : Nat)) + (y.length : Nat))] ent18 rfl rfl rfl rfl (by exact (markIntS_s hs19 (by omega) (by omega)))) rfl rfl rfl ?_
 rintro _ _ ⟨rfl, rfl⟩
 refine G.stepD (OD.assign rfl rfl) rfl rfl rfl ?_
 refine G.nil (GE.then_ (GC.seq (GC.seq (GC.region ?_))))
 refine G.stepD (OD.move rfl rfl) rfl rfl rfl ?_
 refine G.stepD (OD.eqv (OD.lss rfl rfl rfl) (congrArg Value.bool ((decide_eq_false (by omega)) : _ = false))) rfl rfl rfl ?_
 refine G.stepD (OD.move rfl rfl) rfl rfl rfl ?_
 refine G.stepGD (OD.move rfl rfl) rfl rfl rfl rfl rfl ?_
 refine G.stepGD (OD.move rfl rfl) rfl rfl rfl rfl rfl ?_
 refine G.stepG (OG.call [v20, v11] ent15 rfl rfl rfl rfl (by exact (eqIntS_same hs21 (Ent.ints (i := 6) rfl) hs12 (Ent.ints (i := 8) rfl) (by omega)))) rfl rfl rfl rfl rfl ?_
 rintro _ _ ⟨rfl, rfl⟩
 refine G.stepGD (OD.not rfl rfl) rfl rfl rfl rfl rfl ?_
 refine G.stepD (OD.pickF rfl rfl rfl) rfl rfl rfl ?_
 refine G.nil (GE.then_ (GC.condF rfl (GC.skip (GE.then_ (GC.seq (GC.region ?_))))))
 refine G.stepD (OD.assign rfl rfl) rfl rfl rfl ?_
 refine G.nil (GE.then_ (GC.seq (GC.region ?_)))
 refine G.stepD (OD.move rfl rfl) rfl rfl rfl ?_
 refine G.stepD (OD.move rfl rfl) rfl rfl rfl ?_
 refine G.at [6] 0 (env' := [(1, vy), (2, vx), (3, .pointer (some ⟨g1, 0, none⟩)), (8, v11), (9, .pointer (some ⟨g15, 0, none⟩)), (10, v16), (11, v18), (12, v20), (53, .bool false), (54, v16), (55, vy), (56, v26), (57, .bool true), (58, .bool false), (59, v18), (60, vx), (61, v28), (62, .bool true), (63, .bool false), (64, .agg #[.int .i64 (cr), v13]), (65, .int .i64 (1)), (66, .int .i64 (1 + (cd.length : Nat))), (67, v16), (68, .int .i64 (1 + (cd.length : Nat))), (69, .int .i64 ((1 + (cd.length : Nat)) + (y.length : Nat))), (70, v18), (71, .int .i64 ((1 + (cd.length : Nat)) + (y.length : Nat))), (72, .int .i64 (((1 + (cd.length : Nat)) + (y.length : Nat)) + (x.length : Nat))), (13, .int .i64 (((1 + (cd.length : Nat)) + (y.length : Nat)) + (x.length : Nat))), (73, .int .i64 (((1 + (cd.length : Nat)) + (y.length : Nat)) + (x.length : Nat))), (74, .bool false), (75, .bool false), (76, v20), (77, v11), (78, .bool true), (79, .bool false), (80, .bool false), (14, .int .i64 (1)), (81, v20), (82, .int .i64 (1))]) ⟨rfl, rfl, rfl, rfl, rfl, rfl, rfl, rfl, rfl, rfl, rfl, rfl, rfl, rfl, rfl, rfl, rfl, rfl, rfl, rfl, rfl, rfl, rfl, rfl, rfl, rfl, rfl, rfl, rfl, rfl, rfl, rfl, rfl, rfl, rfl, rfl, rfl, rfl, rfl, rfl, trivial⟩ (own' := ints 3 v20 (rbOf cr cd y x) :: ints 3 v18 (mkd ((1 + (cd.length : Nat)) + (y.length : Nat)) x.length) :: ints 3 v16 (mkd (1 + (cd.length : Nat)) y.length) :: ints 3 v13 (mkd 1 cd.length) :: ints 3 v28 x :: ints 3 v26 y :: ints 3 v25 cd :: box g15 28 [.int .i64 (cr), v13] :: ints 3 v11 (rbOf cr cd y x) :: ints 3 v9 x :: ints 3 v7 y :: ints 3 v5 cd :: box g1 24 [.int .i64 (cr), vcd] :: own) rfl ?_
 refine G.step (OG.call [v20, .int .i64 (1)] ent18 rfl rfl rfl rfl (by exact (markIntS_s hs21 (by omega) (by omega)))) rfl rfl rfl ?_
 rintro _ _ ⟨rfl, rfl⟩
 refine G.stepD (OD.assign rfl rfl) rfl rfl rfl ?_
 refine G.nil (GE.then_ (GC.seq (GC.region ?_)))
 refine G.stepD (OD.assign rfl rfl) rfl rfl rfl ?_
 refine G.nil (GE.then_ (GC.seq (GC.region ?_)))
 refine G.stepD (OD.move rfl rfl) rfl rfl rfl ?_
 refine G.stepD (OD.move rfl rfl) rfl rfl rfl ?_
 refine G.step (OG.call [v20, .int .i64 (1)] ent19 rfl rfl rfl rfl (by exact (heldIntS_m hs21 (Ent.ints (i := 0) rfl) (by omega) (by omega)))) rfl rfl rfl ?_
 rintro _ _ ⟨rfl, rfl⟩
 refine G.stepD (OD.assign rfl rfl) rfl rfl rfl ?_
 refine G.nil (GE.then_ (GC.seq (GC.seq (GC.region ?_))))
 refine G.stepD (OD.move rfl rfl) rfl rfl rfl ?_
 refine G.stepD (OD.eqv (OD.lss rfl rfl rfl) (congrArg Value.bool ((decide_eq_false (by omega)) : _ = false))) rfl rfl rfl ?_
 refine G.nil (GE.then_ (GC.condF rfl (GC.skip (GE.then_ (GC.seq (GC.seq (GC.region ?_)))))))
 refine G.stepD (OD.move rfl rfl) rfl rfl rfl ?_
 refine G.stepD (OD.move rfl rfl) rfl rfl rfl ?_
 refine G.stepD (OD.eqv (OD.neq rfl rfl rfl) (congrArg Value.bool ((bne_same _) : _ = false))) rfl rfl rfl ?_
 refine G.nil (GE.then_ (GC.condF rfl (GC.skip (GE.then_ (GC.seq (GC.region ?_))))))
 refine G.stepD (OD.loadAgg rfl ti24 rfl (i := 12) rfl (us := [.int .i64 (cr), vcd]) rfl rfl) rfl rfl rfl ?_
 refine G.step (OG.call [.agg #[.int .i64 (cr), vcd]] ent13 rfl rfl rfl rfl (by exact (toCartan_s scd (Ent.drop 13 ecd) (by omega)))) rfl rfl rfl ?_
 rintro _ _ ⟨v30, rfl, hs31, rfl⟩
 refine G.stepD (OD.move rfl rfl) rfl rfl rfl ?_
 refine G.step (OG.call [vy] ent21 rfl rfl rfl rfl (by exact (toIntS_s sy (Ent.drop 14 ey) (by omega)))) rfl rfl rfl ?_
 rintro v32 _ ⟨_, rfl, hs33, rfl⟩
 refine G.stepD (OD.move rfl rfl) rfl rfl rfl ?_
 refine G.step (OG.call [vx] ent21 rfl rfl rfl rfl (by exact (toIntS_s sx (Ent.drop 15 ex) (by omega)))) rfl rfl rfl ?_
 rintro v34 _ ⟨_, rfl, hs35, rfl⟩
 refine G.step (OG.call [.agg #[.int .i64 (cr), v30], v32, v34] ent34 rfl rfl rfl rfl (by exact (reflectBy_w hs31 (Ent.ints (i := 2) rfl) hs33 (Ent.ints (i := 1) rfl) hs35 (Ent.ints (i := 0) rfl) (by omega) (by omega) (by omega) (h64y) ((Ent.drop 16 hg)) ((Ent.drop 16 htab))))) rfl rfl rfl ?_
 rintro v36 _ ⟨_, rfl, hs37, rfl⟩
 refine G.stepD (OD.assign rfl rfl) rfl rfl rfl ?_
 refine G.nil (GE.then_ (GC.seq (GC.seq (GC.region ?_))))
 refine G.stepD (OD.move rfl rfl) rfl rfl rfl ?_
 refine G.stepD (OD.move rfl rfl) rfl rfl rfl ?_
 refine G.step (OG.call [v36, v11] ent15 rfl rfl rfl rfl (by exact (eqIntS_same hs37 (Ent.ints (i := 0) rfl) hs12 (Ent.ints (i := 12) rfl) (by omega)))) rfl rfl rfl ?_
 rintro _ _ ⟨rfl, rfl⟩
 refine G.stepD (OD.not rfl rfl) rfl rfl rfl ?_
 refine G.nil (GE.then_ (GC.condF rfl (GC.skip (GE.then_ (GC.seq (GC.region ?_))))))
 refine G.stepD (OD.assign rfl rfl) rfl rfl rfl ?_
 refine G.nil (GE.then_ (GC.seq (GC.region ?_)))
 refine G.stepD (OD.move rfl rfl) rfl rfl rfl ?_
 refine G.stepD (OD.move rfl rfl) rfl rfl rfl ?_
 refine G.step (OG.call [v20, .int .i64 (1)] ent19 rfl rfl rfl rfl (by exact (heldIntS_m hs21 (Ent.ints (i := 4) rfl) (by omega) (by omega)))) rfl rfl rfl ?_
 rintro _ _ ⟨rfl, rfl⟩
 refine G.stepD (OD.assign rfl rfl) rfl rfl rfl ?_
 refine G.nil (GE.then_ (GC.seq (GC.seq (GC.region ?_))))
 refine G.stepD (OD.move rfl rfl) rfl rfl rfl ?_
 refine G.stepD (OD.eqv (OD.lss rfl rfl rfl) (congrArg Value.bool ((decide_eq_false (by omega)) : _ = false))) rfl rfl rfl ?_
 refine G.nil (GE.then_ (GC.condF rfl (GC.skip (GE.then_ (GC.seq (GC.seq (GC.region ?_)))))))
 refine G.stepD (OD.move rfl rfl) rfl rfl rfl ?_
 refine G.stepD (OD.move rfl rfl) rfl rfl rfl ?_
 refine G.stepD (OD.eqv (OD.neq rfl rfl rfl) (congrArg Value.bool ((bne_same _) : _ = false))) rfl rfl rfl ?_
 refine G.nil (GE.then_ (GC.condF rfl (GC.skip (GE.then_ (GC.seq (GC.region ?_))))))
 refine G.stepD (OD.assign rfl rfl) rfl rfl rfl ?_
 refine G.nil (GE.then_ (GC.ret ?_))
 exact GE.body [] 17 (res1 rfl rfl) rfl (⟨rfl, rfl⟩)

end Go.Proofs.YteflhcbnajeooaaGreatDoor
