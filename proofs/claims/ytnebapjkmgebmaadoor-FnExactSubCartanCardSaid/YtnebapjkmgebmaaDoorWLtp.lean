/-
  LengthsOf, InnerOf, SubCartan: contracts and the laws on them.
-/
import Derived.Test.YtnebapjkmgebmaaDoorWLen
namespace Go.Proofs.YtnebapjkmgebmaaDoor
set_option linter.unusedVariables false
set_option linter.unusedSimpArgs false
open Go.RowKit

theorem ent30 : ∀ us w, (callFunc 30 us).run Tryd.prog w = .ok (.enter 30 us) w := fun us w => by kernel_rfl
theorem ent31 : ∀ us w, (callFunc 31 us).run Tryd.prog w = .ok (.enter 31 us) w := fun us w => by kernel_rfl
theorem ent36 : ∀ us w, (callFunc 36 us).run Tryd.prog w = .ok (.enter 36 us) w := fun us w => by kernel_rfl
theorem ent37 : ∀ us w, (callFunc 37 us).run Tryd.prog w = .ok (.enter 37 us) w := fun us w => by kernel_rfl
theorem ent47 : ∀ us w, (callFunc 47 us).run Tryd.prog w = .ok (.enter 47 us) w := fun us w => by kernel_rfl
theorem ent48 : ∀ us w, (callFunc 48 us).run Tryd.prog w = .ok (.enter 48 us) w := fun us w => by kernel_rfl
theorem ent84 : ∀ us w, (callFunc 84 us).run Tryd.prog w = .ok (.enter 84 us) w := fun us w => by kernel_rfl
theorem ent85 : ∀ us w, (callFunc 85 us).run Tryd.prog w = .ok (.enter 85 us) w := fun us w => by kernel_rfl

set_option maxRecDepth 100000 in
theorem lengthsOf_w {W : World} {own : List Asn} {cr : Int} {vcd : Value} {cd : List Int}  (scd : IsS vcd) (ecd : Ent own fun w => Ints w vcd cd)  (hl0 : cd.length ≤ 1073741824) (hg : Ent own fun w => ∃ m, w.cell? ⟨Tryd.l146_ren.g 1, 0, none⟩ = some (.int .i64 m)) : Spec Tryd.prog 37 [.agg #[.int .i64 (cr), vcd]] W own (fun v ow => ∃ (r0 : Value), v = r0 ∧ IsS r0 ∧ ow = ints 3 r0 (lenOf cr cd) :: own) := by
 refine Spec.enter Tryd.f37 _ Tryd.func37 rfl (n := 8) rfl rfl ?_
 refine GC.seq (GC.region ?_)
 refine G.step (OG.box (cs := [.int .i64 (cr), vcd]) rfl rfl rfl) rfl rfl rfl ?_
 rintro _ _ ⟨g1, rfl, rfl⟩
 refine G.stepD (OD.assign rfl rfl) rfl rfl rfl ?_
 refine G.nil (GE.then_ (GC.seq (GC.seq (GC.region ?_))))
 refine G.stepD (OD.loadAgg rfl ti24 rfl (i := 0) rfl (us := [.int .i64 (cr), vcd]) rfl rfl) rfl rfl rfl ?_
 refine G.step (OG.call [.agg #[.int .i64 (cr), vcd]] ent23 rfl rfl rfl rfl (by exact (isCartan_w scd (Ent.drop 1 ecd) (hl0) ((Ent.drop 1 hg))))) rfl rfl rfl ?_
 rintro _ _ ⟨rfl, rfl⟩
 refine G.stepD (OD.not rfl rfl) rfl rfl rfl ?_
 refine G.nil (GE.then_ ?_)
 refine GC.cond rfl (fun hc2 => ?_) (fun hc2 => ?_)
 replace hc2 := eq_false_of_not hc2
 refine GC.seq (GC.region ?_)
 refine G.stepD (OD.assign rfl rfl) rfl rfl rfl ?_
 refine G.nil (GE.then_ (GC.ret (GE.passR ?_)))
 refine GE.nilInts 3 ?_
 exact GE.body [0] 1 (res1 rfl rfl) rfl (⟨(.slice none 0 0), rfl, IsS.nil, congrArg (fun (l0 : List Int) => ints 3 (.slice none 0 0) l0 :: own) ((by rw [lenOf, hc2]; rfl : [] = lenOf cr cd))⟩)
 replace hc2 := eq_true_of_not hc2
 refine GC.skip (GE.then_ (GC.seq (GC.region ?_)))
 refine G.stepD (OD.loadAgg rfl ti24 rfl (i := 0) rfl (us := [.int .i64 (cr), vcd]) rfl rfl) rfl rfl rfl ?_
 refine G.step (OG.call [.agg #[.int .i64 (cr), vcd]] ent76 rfl rfl rfl rfl (by exact (lengths_w scd (Ent.drop 1 ecd) (hc2)))) rfl rfl rfl ?_
 rintro v3 _ ⟨_, rfl, hs4, rfl⟩
 refine G.stepD (OD.assign rfl rfl) rfl rfl rfl ?_
 refine G.nil (GE.then_ (GC.ret ?_))
 exact GE.body [0] 1 (res1 rfl rfl) rfl (⟨v3, rfl, hs4, congrArg (fun (l0 : List Int) => ints 3 v3 l0 :: own) ((by rw [lenOf, hc2]; rfl : lenF cr cd = lenOf cr cd))⟩)

set_option maxRecDepth 100000 in
theorem specLengthsOf_w {W : World} {own : List Asn} {cr : Int} {vcd : Value} {cd : List Int}  (scd : IsS vcd) (ecd : Ent own fun w => Ints w vcd cd)  (hl0 : cd.length ≤ 1073741824) : Spec Tryd.prog 36 [.agg #[.int .i64 (cr), vcd]] W own (fun v ow => ∃ (r0 : Value), v = r0 ∧ IsS r0 ∧ ow = ints 3 r0 (lenOf cr cd) :: own) := by
 refine Spec.enter Tryd.f36 _ Tryd.func36 rfl (n := 8) rfl rfl ?_
 refine GC.seq (GC.region ?_)
 refine G.step (OG.box (cs := [.int .i64 (cr), vcd]) rfl rfl rfl) rfl rfl rfl ?_
 rintro _ _ ⟨g1, rfl, rfl⟩
 refine G.stepD (OD.assign rfl rfl) rfl rfl rfl ?_
 refine G.nil (GE.then_ (GC.seq (GC.seq (GC.region ?_))))
 refine G.stepD (OD.loadAgg rfl ti24 rfl (i := 0) rfl (us := [.int .i64 (cr), vcd]) rfl rfl) rfl rfl rfl ?_
 refine G.step (OG.call [.agg #[.int .i64 (cr), vcd]] ent21 rfl rfl rfl rfl (by exact (specIsCartan_w scd (Ent.drop 1 ecd) (hl0)))) rfl rfl rfl ?_
 rintro _ _ ⟨rfl, rfl⟩
 refine G.stepD (OD.not rfl rfl) rfl rfl rfl ?_
 refine G.nil (GE.then_ ?_)
 refine GC.cond rfl (fun hc2 => ?_) (fun hc2 => ?_)
 replace hc2 := eq_false_of_not hc2
 refine GC.seq (GC.region ?_)
 refine G.stepD (OD.assign rfl rfl) rfl rfl rfl ?_
 refine G.nil (GE.then_ (GC.ret (GE.passR ?_)))
 refine GE.nilInts 3 ?_
 exact GE.body [0] 1 (res1 rfl rfl) rfl (⟨(.slice none 0 0), rfl, IsS.nil, congrArg (fun (l0 : List Int) => ints 3 (.slice none 0 0) l0 :: own) ((by rw [lenOf, hc2]; rfl : [] = lenOf cr cd))⟩)
 replace hc2 := eq_true_of_not hc2
 refine GC.skip (GE.then_ (GC.seq (GC.region ?_)))
 refine G.stepD (OD.loadAgg rfl ti24 rfl (i := 0) rfl (us := [.int .i64 (cr), vcd]) rfl rfl) rfl rfl rfl ?_
 refine G.step (OG.call [.agg #[.int .i64 (cr), vcd]] ent75 rfl rfl rfl rfl (by exact (l5Lengths_w scd (Ent.drop 1 ecd) (hc2)))) rfl rfl rfl ?_
 rintro v3 _ ⟨_, rfl, hs4, rfl⟩
 refine G.stepD (OD.assign rfl rfl) rfl rfl rfl ?_
 refine G.nil (GE.then_ (GC.ret ?_))
 exact GE.body [0] 1 (res1 rfl rfl) rfl (⟨v3, rfl, hs4, congrArg (fun (l0 : List Int) => ints 3 v3 l0 :: own) ((by rw [lenOf, hc2]; rfl : lenF cr cd = lenOf cr cd))⟩)

set_option maxRecDepth 100000 in
theorem innerOf_w {W : World} {own : List Asn} {cr : Int} {vcd : Value} {cd : List Int} {vx : Value} {x : List Int} {vy : Value} {y : List Int}  (scd : IsS vcd) (ecd : Ent own fun w => Ints w vcd cd)   (sx : IsS vx) (ex : Ent own fun w => Ints w vx x)   (sy : IsS vy) (ey : Ent own fun w => Ints w vy y)  (hl0 : cd.length ≤ 1073741824) (hl : x.length ≤ 1073741824) (hly : y.length ≤ 1073741824) (hg : Ent own fun w => ∃ m, w.cell? ⟨Tryd.l146_ren.g 1, 0, none⟩ = some (.int .i64 m)) : Spec Tryd.prog 48 [.agg #[.int .i64 (cr), vcd], vx, vy] W own (fun v ow => v = .int .i64 (inOf cr cd x y) ∧ ow = own) := by
 refine Spec.enter Tryd.f48 _ Tryd.func48 rfl (n := 26) rfl rfl ?_
 refine GC.seq (GC.region ?_)
 refine G.step (OG.box (cs := [.int .i64 (cr), vcd]) rfl rfl rfl) rfl rfl rfl ?_
 rintro _ _ ⟨g1, rfl, rfl⟩
 refine G.stepD (OD.assign rfl rfl) rfl rfl rfl ?_
 refine G.nil (GE.then_ (GC.seq (GC.seq (GC.region ?_))))
 refine G.stepD (OD.loadAgg rfl ti24 rfl (i := 0) rfl (us := [.int .i64 (cr), vcd]) rfl rfl) rfl rfl rfl ?_
 refine G.step (OG.call [.agg #[.int .i64 (cr), vcd]] ent23 rfl rfl rfl rfl (by exact (isCartan_w scd (Ent.drop 1 ecd) (hl0) ((Ent.drop 1 hg))))) rfl rfl rfl ?_
 rintro _ _ ⟨rfl, rfl⟩
 refine G.stepD (OD.not rfl rfl) rfl rfl rfl ?_
 refine G.stepD (OD.move rfl rfl) rfl rfl rfl ?_
 rcases Bool.eq_false_or_eq_true (!((tyS cr cd).isSome)) with hg2 | hg2
 have hg2e := hg2
 refine G.at [] 0 (env' := [(0, .agg #[.int .i64 (cr), vcd]), (1, vx), (2, vy), (3, .pointer (some ⟨g1, 0, none⟩)), (6, .int .i64 (0)), (7, .agg #[.int .i64 (cr), vcd]), (8, .bool ((tyS cr cd).isSome)), (9, .bool true), (10, .bool true)]) (⟨rfl, rfl, rfl, rfl, rfl, rfl, rfl, (congrArg (fun b => some (Value.bool b)) hg2e), (congrArg (fun b => some (Value.bool b)) hg2e), trivial⟩) rfl ?_
 replace hg2 := eq_false_of_not hg2
 refine G.skipG rfl rfl rfl rfl rfl rfl (G.skipG rfl rfl rfl rfl rfl rfl (G.skipG rfl rfl rfl rfl rfl rfl (G.skipG rfl rfl rfl rfl rfl rfl ?_)))
 refine G.stepD (OD.pickT rfl rfl rfl) rfl rfl rfl ?_
 refine G.stepD (OD.move rfl rfl) rfl rfl rfl ?_
 refine G.skipG rfl rfl rfl rfl rfl rfl (G.skipG rfl rfl rfl rfl rfl rfl (G.skipG rfl rfl rfl rfl rfl rfl (G.skipG rfl rfl rfl rfl rfl rfl ?_)))
 refine G.stepD (OD.pickT rfl rfl rfl) rfl rfl rfl ?_
 refine G.nil (GE.then_ (GC.condT rfl (GC.seq (GC.region ?_))))
 refine G.stepD (OD.assign rfl rfl) rfl rfl rfl ?_
 refine G.nil (GE.then_ (GC.ret (GE.passR ?_)))
 exact GE.body [] 1 (res1 rfl rfl) rfl (⟨congrArg (fun (a0 : Int) => (.int .i64 (a0) : Value)) ((by rw [inOf, hg2]; simp : (0 : Int) = inOf cr cd x y)), rfl⟩)
 have hg2e := hg2
 refine G.at [] 0 (env' := [(0, .agg #[.int .i64 (cr), vcd]), (1, vx), (2, vy), (3, .pointer (some ⟨g1, 0, none⟩)), (6, .int .i64 (0)), (7, .agg #[.int .i64 (cr), vcd]), (8, .bool ((tyS cr cd).isSome)), (9, .bool false), (10, .bool false)]) (⟨rfl, rfl, rfl, rfl, rfl, rfl, rfl, (congrArg (fun b => some (Value.bool b)) hg2e), (congrArg (fun b => some (Value.bool b)) hg2e), trivial⟩) rfl ?_
 replace hg2 := eq_true_of_not hg2
 refine G.stepGD (OD.loadAgg rfl ti24 rfl (i := 0) rfl (us := [.int .i64 (cr), vcd]) rfl rfl) rfl rfl rfl rfl rfl ?_
 refine G.stepGD (OD.move rfl rfl) rfl rfl rfl rfl rfl ?_
 refine G.stepG (OG.call [.agg #[.int .i64 (cr), vcd], vx] ent73 rfl rfl rfl rfl (by exact (isWeight_w scd (Ent.drop 1 ecd) sx (Ent.drop 1 ex) (by omega)))) rfl rfl rfl rfl rfl ?_
 rintro _ _ ⟨rfl, rfl⟩
 refine G.stepGD (OD.not rfl rfl) rfl rfl rfl rfl rfl ?_
 refine G.stepD (OD.pickF rfl rfl rfl) rfl rfl rfl ?_
 refine G.stepD (OD.move rfl rfl) rfl rfl rfl ?_
 rcases Bool.eq_false_or_eq_true (!(wtOk cr x)) with hg3 | hg3
 have hg3e := hg3
 refine G.at [] 0 (env' := [(0, .agg #[.int .i64 (cr), vcd]), (1, vx), (2, vy), (3, .pointer (some ⟨g1, 0, none⟩)), (6, .int .i64 (0)), (7, .agg #[.int .i64 (cr), vcd]), (8, .bool ((tyS cr cd).isSome)), (9, .bool false), (10, .bool false), (11, .agg #[.int .i64 (cr), vcd]), (12, vx), (13, .bool (wtOk cr x)), (14, .bool true), (15, .bool true), (16, .bool true)]) (⟨rfl, rfl, rfl, rfl, rfl, rfl, rfl, rfl, rfl, rfl, rfl, rfl, (congrArg (fun b => some (Value.bool b)) hg3e), (congrArg (fun b => some (Value.bool b)) hg3e), (congrArg (fun b => some (Value.bool b)) hg3e), trivial⟩) rfl ?_
 replace hg3 := eq_false_of_not hg3
 refine G.skipG rfl rfl rfl rfl rfl rfl (G.skipG rfl rfl rfl rfl rfl rfl (G.skipG rfl rfl rfl rfl rfl rfl (G.skipG rfl rfl rfl rfl rfl rfl ?_)))
 refine G.stepD (OD.pickT rfl rfl rfl) rfl rfl rfl ?_
 refine G.nil (GE.then_ (GC.condT rfl (GC.seq (GC.region ?_))))
 refine G.stepD (OD.assign rfl rfl) rfl rfl rfl ?_
 refine G.nil (GE.then_ (GC.ret (GE.passR ?_)))
 exact GE.body [] 1 (res1 rfl rfl) rfl (⟨congrArg (fun (a0 : Int) => (.int .i64 (a0) : Value)) ((by rw [inOf, hg3]; simp : (0 : Int) = inOf cr cd x y)), rfl⟩)
 have hg3e := hg3
 refine G.at [] 0 (env' := [(0, .agg #[.int .i64 (cr), vcd]), (1, vx), (2, vy), (3, .pointer (some ⟨g1, 0, none⟩)), (6, .int .i64 (0)), (7, .agg #[.int .i64 (cr), vcd]), (8, .bool ((tyS cr cd).isSome)), (9, .bool false), (10, .bool false), (11, .agg #[.int .i64 (cr), vcd]), (12, vx), (13, .bool (wtOk cr x)), (14, .bool false), (15, .bool false), (16, .bool false)]) (⟨rfl, rfl, rfl, rfl, rfl, rfl, rfl, rfl, rfl, rfl, rfl, rfl, (congrArg (fun b => some (Value.bool b)) hg3e), (congrArg (fun b => some (Value.bool b)) hg3e), (congrArg (fun b => some (Value.bool b)) hg3e), trivial⟩) rfl ?_
 replace hg3 := eq_true_of_not hg3
 refine G.stepGD (OD.loadAgg rfl ti24 rfl (i := 0) rfl (us := [.int .i64 (cr), vcd]) rfl rfl) rfl rfl rfl rfl rfl ?_
 refine G.stepGD (OD.move rfl rfl) rfl rfl rfl rfl rfl ?_
 refine G.stepG (OG.call [.agg #[.int .i64 (cr), vcd], vy] ent73 rfl rfl rfl rfl (by exact (isWeight_w scd (Ent.drop 1 ecd) sy (Ent.drop 1 ey) (by omega)))) rfl rfl rfl rfl rfl ?_
 rintro _ _ ⟨rfl, rfl⟩
 refine G.stepGD (OD.not rfl rfl) rfl rfl rfl rfl rfl ?_
 refine G.stepD (OD.pickF rfl rfl rfl) rfl rfl rfl ?_
 refine G.nil (GE.then_ ?_)
 refine GC.cond rfl (fun hc4 => ?_) (fun hc4 => ?_)
 replace hc4 := eq_false_of_not hc4
 refine GC.seq (GC.region ?_)
 refine G.stepD (OD.assign rfl rfl) rfl rfl rfl ?_
 refine G.nil (GE.then_ (GC.ret (GE.passR ?_)))
 exact GE.body [] 1 (res1 rfl rfl) rfl (⟨congrArg (fun (a0 : Int) => (.int .i64 (a0) : Value)) ((by rw [inOf, hc4]; simp : (0 : Int) = inOf cr cd x y)), rfl⟩)
 replace hc4 := eq_true_of_not hc4
 refine GC.skip (GE.then_ (GC.seq (GC.region ?_)))
 refine G.stepD (OD.loadAgg rfl ti24 rfl (i := 0) rfl (us := [.int .i64 (cr), vcd]) rfl rfl) rfl rfl rfl ?_
 refine G.stepD (OD.move rfl rfl) rfl rfl rfl ?_
 refine G.stepD (OD.move rfl rfl) rfl rfl rfl ?_
 refine G.step (OG.call [.agg #[.int .i64 (cr), vcd], vx, vy] ent85 rfl rfl rfl rfl (by exact (inner_w scd (Ent.drop 1 ecd) sx (Ent.drop 1 ex) sy (Ent.drop 1 ey) (hg2) (wtOk_len hg3) (wtOk_len hc4)))) rfl rfl rfl ?_
 rintro _ _ ⟨rfl, rfl⟩
 refine G.stepD (OD.assign rfl rfl) rfl rfl rfl ?_
 refine G.nil (GE.then_ (GC.ret ?_))
 exact GE.body [] 1 (res1 rfl rfl) rfl (⟨congrArg (fun (a0 : Int) => (.int .i64 (a0) : Value)) ((by rw [inOf, hg2, hg3, hc4]; rfl : (inF cr cd x y : Int) = inOf cr cd x y)), rfl⟩)

set_option maxRecDepth 100000 in
theorem specInnerOf_w {W : World} {own : List Asn} {cr : Int} {vcd : Value} {cd : List Int} {vx : Value} {x : List Int} {vy : Value} {y : List Int}  (scd : IsS vcd) (ecd : Ent own fun w => Ints w vcd cd)   (sx : IsS vx) (ex : Ent own fun w => Ints w vx x)   (sy : IsS vy) (ey : Ent own fun w => Ints w vy y)  (hl0 : cd.length ≤ 1073741824) (hl : x.length ≤ 1073741824) (hly : y.length ≤ 1073741824) : Spec Tryd.prog 47 [.agg #[.int .i64 (cr), vcd], vx, vy] W own (fun v ow => v = .int .i64 (inOf cr cd x y) ∧ ow = own) := by
 refine Spec.enter Tryd.f47 _ Tryd.func47 rfl (n := 26) rfl rfl ?_
 refine GC.seq (GC.region ?_)
 refine G.step (OG.box (cs := [.int .i64 (cr), vcd]) rfl rfl rfl) rfl rfl rfl ?_
 rintro _ _ ⟨g1, rfl, rfl⟩
 refine G.stepD (OD.assign rfl rfl) rfl rfl rfl ?_
 refine G.nil (GE.then_ (GC.seq (GC.seq (GC.region ?_))))
 refine G.stepD (OD.loadAgg rfl ti24 rfl (i := 0) rfl (us := [.int .i64 (cr), vcd]) rfl rfl) rfl rfl rfl ?_
 refine G.step (OG.call [.agg #[.int .i64 (cr), vcd]] ent21 rfl rfl rfl rfl (by exact (specIsCartan_w scd (Ent.drop 1 ecd) (hl0)))) rfl rfl rfl ?_
 rintro _ _ ⟨rfl, rfl⟩
 refine G.stepD (OD.not rfl rfl) rfl rfl rfl ?_
 refine G.stepD (OD.move rfl rfl) rfl rfl rfl ?_
 rcases Bool.eq_false_or_eq_true (!((tyS cr cd).isSome)) with hg2 | hg2
 have hg2e := hg2
 refine G.at [] 0 (env' := [(0, .agg #[.int .i64 (cr), vcd]), (1, vx), (2, vy), (3, .pointer (some ⟨g1, 0, none⟩)), (6, .int .i64 (0)), (7, .agg #[.int .i64 (cr), vcd]), (8, .bool ((tyS cr cd).isSome)), (9, .bool true), (10, .bool true)]) (⟨rfl, rfl, rfl, rfl, rfl, rfl, rfl, (congrArg (fun b => some (Value.bool b)) hg2e), (congrArg (fun b => some (Value.bool b)) hg2e), trivial⟩) rfl ?_
 replace hg2 := eq_false_of_not hg2
 refine G.skipG rfl rfl rfl rfl rfl rfl (G.skipG rfl rfl rfl rfl rfl rfl (G.skipG rfl rfl rfl rfl rfl rfl (G.skipG rfl rfl rfl rfl rfl rfl ?_)))
 refine G.stepD (OD.pickT rfl rfl rfl) rfl rfl rfl ?_
 refine G.stepD (OD.move rfl rfl) rfl rfl rfl ?_
 refine G.skipG rfl rfl rfl rfl rfl rfl (G.skipG rfl rfl rfl rfl rfl rfl (G.skipG rfl rfl rfl rfl rfl rfl (G.skipG rfl rfl rfl rfl rfl rfl ?_)))
 refine G.stepD (OD.pickT rfl rfl rfl) rfl rfl rfl ?_
 refine G.nil (GE.then_ (GC.condT rfl (GC.seq (GC.region ?_))))
 refine G.stepD (OD.assign rfl rfl) rfl rfl rfl ?_
 refine G.nil (GE.then_ (GC.ret (GE.passR ?_)))
 exact GE.body [] 1 (res1 rfl rfl) rfl (⟨congrArg (fun (a0 : Int) => (.int .i64 (a0) : Value)) ((by rw [inOf, hg2]; simp : (0 : Int) = inOf cr cd x y)), rfl⟩)
 have hg2e := hg2
 refine G.at [] 0 (env' := [(0, .agg #[.int .i64 (cr), vcd]), (1, vx), (2, vy), (3, .pointer (some ⟨g1, 0, none⟩)), (6, .int .i64 (0)), (7, .agg #[.int .i64 (cr), vcd]), (8, .bool ((tyS cr cd).isSome)), (9, .bool false), (10, .bool false)]) (⟨rfl, rfl, rfl, rfl, rfl, rfl, rfl, (congrArg (fun b => some (Value.bool b)) hg2e), (congrArg (fun b => some (Value.bool b)) hg2e), trivial⟩) rfl ?_
 replace hg2 := eq_true_of_not hg2
 refine G.stepGD (OD.loadAgg rfl ti24 rfl (i := 0) rfl (us := [.int .i64 (cr), vcd]) rfl rfl) rfl rfl rfl rfl rfl ?_
 refine G.stepGD (OD.move rfl rfl) rfl rfl rfl rfl rfl ?_
 refine G.stepG (OG.call [.agg #[.int .i64 (cr), vcd], vx] ent71 rfl rfl rfl rfl (by exact (l5Lattice_w scd (Ent.drop 1 ecd) sx (Ent.drop 1 ex) (by omega)))) rfl rfl rfl rfl rfl ?_
 rintro _ _ ⟨rfl, rfl⟩
 refine G.stepGD (OD.not rfl rfl) rfl rfl rfl rfl rfl ?_
 refine G.stepD (OD.pickF rfl rfl rfl) rfl rfl rfl ?_
 refine G.stepD (OD.move rfl rfl) rfl rfl rfl ?_
 rcases Bool.eq_false_or_eq_true (!(wtOk cr x)) with hg3 | hg3
 have hg3e := hg3
 refine G.at [] 0 (env' := [(0, .agg #[.int .i64 (cr), vcd]), (1, vx), (2, vy), (3, .pointer (some ⟨g1, 0, none⟩)), (6, .int .i64 (0)), (7, .agg #[.int .i64 (cr), vcd]), (8, .bool ((tyS cr cd).isSome)), (9, .bool false), (10, .bool false), (11, .agg #[.int .i64 (cr), vcd]), (12, vx), (13, .bool (wtOk cr x)), (14, .bool true), (15, .bool true), (16, .bool true)]) (⟨rfl, rfl, rfl, rfl, rfl, rfl, rfl, rfl, rfl, rfl, rfl, rfl, (congrArg (fun b => some (Value.bool b)) hg3e), (congrArg (fun b => some (Value.bool b)) hg3e), (congrArg (fun b => some (Value.bool b)) hg3e), trivial⟩) rfl ?_
 replace hg3 := eq_false_of_not hg3
 refine G.skipG rfl rfl rfl rfl rfl rfl (G.skipG rfl rfl rfl rfl rfl rfl (G.skipG rfl rfl rfl rfl rfl rfl (G.skipG rfl rfl rfl rfl rfl rfl ?_)))
 refine G.stepD (OD.pickT rfl rfl rfl) rfl rfl rfl ?_
 refine G.nil (GE.then_ (GC.condT rfl (GC.seq (GC.region ?_))))
 refine G.stepD (OD.assign rfl rfl) rfl rfl rfl ?_
 refine G.nil (GE.then_ (GC.ret (GE.passR ?_)))
 exact GE.body [] 1 (res1 rfl rfl) rfl (⟨congrArg (fun (a0 : Int) => (.int .i64 (a0) : Value)) ((by rw [inOf, hg3]; simp : (0 : Int) = inOf cr cd x y)), rfl⟩)
 have hg3e := hg3
 refine G.at [] 0 (env' := [(0, .agg #[.int .i64 (cr), vcd]), (1, vx), (2, vy), (3, .pointer (some ⟨g1, 0, none⟩)), (6, .int .i64 (0)), (7, .agg #[.int .i64 (cr), vcd]), (8, .bool ((tyS cr cd).isSome)), (9, .bool false), (10, .bool false), (11, .agg #[.int .i64 (cr), vcd]), (12, vx), (13, .bool (wtOk cr x)), (14, .bool false), (15, .bool false), (16, .bool false)]) (⟨rfl, rfl, rfl, rfl, rfl, rfl, rfl, rfl, rfl, rfl, rfl, rfl, (congrArg (fun b => some (Value.bool b)) hg3e), (congrArg (fun b => some (Value.bool b)) hg3e), (congrArg (fun b => some (Value.bool b)) hg3e), trivial⟩) rfl ?_
 replace hg3 := eq_true_of_not hg3
 refine G.stepGD (OD.loadAgg rfl ti24 rfl (i := 0) rfl (us := [.int .i64 (cr), vcd]) rfl rfl) rfl rfl rfl rfl rfl ?_
 refine G.stepGD (OD.move rfl rfl) rfl rfl rfl rfl rfl ?_
 refine G.stepG (OG.call [.agg #[.int .i64 (cr), vcd], vy] ent71 rfl rfl rfl rfl (by exact (l5Lattice_w scd (Ent.drop 1 ecd) sy (Ent.drop 1 ey) (by omega)))) rfl rfl rfl rfl rfl ?_
 rintro _ _ ⟨rfl, rfl⟩
 refine G.stepGD (OD.not rfl rfl) rfl rfl rfl rfl rfl ?_
 refine G.stepD (OD.pickF rfl rfl rfl) rfl rfl rfl ?_
 refine G.nil (GE.then_ ?_)
 refine GC.cond rfl (fun hc4 => ?_) (fun hc4 => ?_)
 replace hc4 := eq_false_of_not hc4
 refine GC.seq (GC.region ?_)
 refine G.stepD (OD.assign rfl rfl) rfl rfl rfl ?_
 refine G.nil (GE.then_ (GC.ret (GE.passR ?_)))
 exact GE.body [] 1 (res1 rfl rfl) rfl (⟨congrArg (fun (a0 : Int) => (.int .i64 (a0) : Value)) ((by rw [inOf, hc4]; simp : (0 : Int) = inOf cr cd x y)), rfl⟩)
 replace hc4 := eq_true_of_not hc4
 refine GC.skip (GE.then_ (GC.seq (GC.region ?_)))
 refine G.stepD (OD.loadAgg rfl ti24 rfl (i := 0) rfl (us := [.int .i64 (cr), vcd]) rfl rfl) rfl rfl rfl ?_
 refine G.stepD (OD.move rfl rfl) rfl rfl rfl ?_
 refine G.stepD (OD.move rfl rfl) rfl rfl rfl ?_
 refine G.step (OG.call [.agg #[.int .i64 (cr), vcd], vx, vy] ent84 rfl rfl rfl rfl (by exact (l5Inner_w scd (Ent.drop 1 ecd) sx (Ent.drop 1 ex) sy (Ent.drop 1 ey) (hg2) (wtOk_len hg3) (wtOk_len hc4)))) rfl rfl rfl ?_
 rintro _ _ ⟨rfl, rfl⟩
 refine G.stepD (OD.assign rfl rfl) rfl rfl rfl ?_
 refine G.nil (GE.then_ (GC.ret ?_))
 exact GE.body [] 1 (res1 rfl rfl) rfl (⟨congrArg (fun (a0 : Int) => (.int .i64 (a0) : Value)) ((by rw [inOf, hg2, hg3, hc4]; rfl : (inF cr cd x y : Int) = inOf cr cd x y)), rfl⟩)

set_option maxHeartbeats 4000000 in
set_option maxRecDepth 100000 in
theorem subCartan_w {W : World} {own : List Asn} {cr : Int} {vcd : Value} {cd : List Int} {vx : Value} {x : List Int}  (scd : IsS vcd) (ecd : Ent own fun w => Ints w vcd cd)   (sx : IsS vx) (ex : Ent own fun w => Ints w vx x)  (hl0 : cd.length ≤ 1073741824) (hl : x.length ≤ 1073741824) (hg : Ent own fun w => ∃ m, w.cell? ⟨Tryd.l146_ren.g 1, 0, none⟩ = some (.int .i64 m)) : Spec Tryd.prog 31 [.agg #[.int .i64 (cr), vcd], vx] W own (fun v ow => ∃ (r1 : Value), v = .tuple #[.agg #[.int .i64 (subRk cr cd x), r1], .bool (subOk cr cd x)] ∧ IsS r1 ∧ ow = ints 3 r1 (subDt cr cd x) :: own) := by
 refine Spec.enter Tryd.f31 _ Tryd.func31 rfl (n := 77) rfl rfl ?_
 refine GC.seq (GC.region ?_)
 refine G.step (OG.box (cs := [.int .i64 (cr), vcd]) rfl rfl rfl) rfl rfl rfl ?_
 rintro _ _ ⟨g1, rfl, rfl⟩
 refine G.step (OG.alloc rfl ti24 (zs := [.int .i64 (0), .slice none 0 0]) rfl) rfl rfl rfl ?_
 rintro _ _ ⟨g2, rfl, rfl⟩
 refine G.stepD (OD.assign rfl rfl) rfl rfl rfl ?_
 refine G.nil (GE.then_ (GC.seq (GC.seq (GC.region ?_))))
 refine G.stepD (OD.loadAgg rfl ti24 rfl (i := 1) rfl (us := [.int .i64 (cr), vcd]) rfl rfl) rfl rfl rfl ?_
 refine G.step (OG.call [.agg #[.int .i64 (cr), vcd]] ent23 rfl rfl rfl rfl (by exact (isCartan_w scd (Ent.drop 2 ecd) (hl0) ((Ent.drop 2 hg))))) rfl rfl rfl ?_
 rintro _ _ ⟨rfl, rfl⟩
 refine G.stepD (OD.not rfl rfl) rfl rfl rfl ?_
 refine G.stepD (OD.move rfl rfl) rfl rfl rfl ?_
 rcases Bool.eq_false_or_eq_true (!((tyS cr cd).isSome)) with hg3 | hg3
 have hg3e := hg3
 refine G.at [] 0 (env' := [(0, .agg #[.int .i64 (cr), vcd]), (1, vx), (2, .pointer (some ⟨g1, 0, none⟩)), (4, .pointer (some ⟨g2, 0, none⟩)), (5, .bool false), (13, .agg #[.int .i64 (cr), vcd]), (14, .bool ((tyS cr cd).isSome)), (15, .bool true), (16, .bool true)]) (⟨rfl, rfl, rfl, rfl, rfl, rfl, rfl, (congrArg (fun b => some (Value.bool b)) hg3e), (congrArg (fun b => some (Value.bool b)) hg3e), trivial⟩) rfl ?_
 replace hg3 := eq_false_of_not hg3
 refine G.skipG rfl rfl rfl rfl rfl rfl (G.skipG rfl rfl rfl rfl rfl rfl (G.skipG rfl rfl rfl rfl rfl rfl ?_))
 refine G.stepD (OD.pickT rfl rfl rfl) rfl rfl rfl ?_
 refine G.nil (GE.then_ (GC.condT rfl (GC.seq (GC.region ?_))))
 refine G.stepD (OD.build (idx := []) (xs := []) (vs := []) (cs := []) (zs := [.int .i64 (0), .slice none 0 0]) (r := [.int .i64 (0), .slice none 0 0]) rfl ti24 rfl rfl rfl trivial rfl) rfl rfl rfl ?_
 refine G.stepD0 (OD.store rfl ti24 rfl rfl (us := [.int .i64 (0), .slice none 0 0]) rfl rfl rfl (i := 0) rfl rfl) rfl rfl ?_
 refine G.stepD (OD.assign rfl rfl) rfl rfl rfl ?_
 refine G.nil (GE.then_ (GC.ret (GE.passR ?_)))
 refine GE.nilInts 3 ?_
 exact GE.body [0] 2 (resN rfl (RVs.cons (rv_cells ti24 rfl (i := 1) rfl rfl) (RVs.cons (rv_tmp rfl) RVs.nil)) rfl) rfl (⟨(.slice none 0 0), congr (congrArg (fun (a0 : Int) (a2 : Bool) => (.tuple #[.agg #[.int .i64 (a0), (.slice none 0 0)], .bool (a2)] : Value)) (((sub_no (by rw [subOk, hg3]; rfl)).1 : (0 : Int) = subRk cr cd x))) (((sub_no (by rw [subOk, hg3]; rfl)).2.2 : (false : Bool) = subOk cr cd x)), IsS.nil, congrArg (fun (l0 : List Int) => ints 3 (.slice none 0 0) l0 :: own) (((sub_no (by rw [subOk, hg3]; rfl)).2.1 : [] = subDt cr cd x))⟩)
 have hg3e := hg3
 refine G.at [] 0 (env' := [(0, .agg #[.int .i64 (cr), vcd]), (1, vx), (2, .pointer (some ⟨g1, 0, none⟩)), (4, .pointer (some ⟨g2, 0, none⟩)), (5, .bool false), (13, .agg #[.int .i64 (cr), vcd]), (14, .bool ((tyS cr cd).isSome)), (15, .bool false), (16, .bool false)]) (⟨rfl, rfl, rfl, rfl, rfl, rfl, rfl, (congrArg (fun b => some (Value.bool b)) hg3e), (congrArg (fun b => some (Value.bool b)) hg3e), trivial⟩) rfl ?_
 replace hg3 := eq_true_of_not hg3
 refine G.stepGD (OD.move rfl rfl) rfl rfl rfl rfl rfl ?_
 refine G.stepGD (OD.len rfl rfl et22 rfl (Ent.drop 2 ex)) rfl rfl rfl rfl rfl ?_
 refine G.stepGD (OD.eql rfl rfl rfl) rfl rfl rfl rfl rfl ?_
 refine G.stepD (OD.pickF rfl rfl rfl) rfl rfl rfl ?_
 refine G.nil (GE.then_ ?_)
 refine GC.cond rfl (fun hc4 => ?_) (fun hc4 => ?_)
 replace hc4 := eq_of_beq hc4
 refine GC.seq (GC.region ?_)
 refine G.stepD (OD.build (idx := []) (xs := []) (vs := []) (cs := []) (zs := [.int .i64 (0), .slice none 0 0]) (r := [.int .i64 (0), .slice none 0 0]) rfl ti24 rfl rfl rfl trivial rfl) rfl rfl rfl ?_
 refine G.stepD0 (OD.store rfl ti24 rfl rfl (us := [.int .i64 (0), .slice none 0 0]) rfl rfl rfl (i := 0) rfl rfl) rfl rfl ?_
 refine G.stepD (OD.assign rfl rfl) rfl rfl rfl ?_
 refine G.nil (GE.then_ (GC.ret (GE.passR ?_)))
 refine GE.nilInts 3 ?_
 exact GE.body [0] 2 (resN rfl (RVs.cons (rv_cells ti24 rfl (i := 1) rfl rfl) (RVs.cons (rv_tmp rfl) RVs.nil)) rfl) rfl (⟨(.slice none 0 0), congr (congrArg (fun (a0 : Int) (a2 : Bool) => (.tuple #[.agg #[.int .i64 (a0), (.slice none 0 0)], .bool (a2)] : Value)) (((sub_no (by simp [subOk, show x.length = 0 by omega])).1 : (0 : Int) = subRk cr cd x))) (((sub_no (by simp [subOk, show x.length = 0 by omega])).2.2 : (false : Bool) = subOk cr cd x)), IsS.nil, congrArg (fun (l0 : List Int) => ints 3 (.slice none 0 0) l0 :: own) (((sub_no (by simp [subOk, show x.length = 0 by omega])).2.1 : [] = subDt cr cd x))⟩)
 replace hc4 := ne_of_beq_false hc4
 have hcr := (tyS_ok hg3).1
 have hcd := (tyS_ok hg3).2
 refine GC.skip (GE.then_ (GC.seq (GC.seq (GC.region ?_))))
 refine G.stepD (OD.move rfl rfl) rfl rfl rfl ?_
 refine G.stepD (OD.len rfl rfl et22 rfl (Ent.drop 2 ex)) rfl rfl rfl ?_
 refine G.stepD (OD.move rfl rfl) rfl rfl rfl ?_
 refine G.nil (GE.then_ (GC.block ?_))
 refine GC.loop (ι := Nat) (fun i => [(1, vx), (2, .pointer (some ⟨g1, 0, none⟩)), (4, .pointer (some ⟨g2, 0, none⟩)), (22, vx), (23, .int .i64 ((x.length : Nat))), (24, .int .i64 ((i : Int)))]) (fun i => box g2 24 [.int .i64 (0), .slice none 0 0] :: box g1 24 [.int .i64 (cr), vcd] :: own) (fun i => (i ≤ x.length) ∧ ((List.range i).any (subBad cr x) = false)) (fun i => x.length - i) 0 (⟨by omega, rfl⟩) ⟨rfl, rfl, rfl, rfl, rfl, rfl, trivial⟩ [] 0 rfl ?_
 rintro i ⟨hi, ht⟩
 refine GC.seq (GC.region ?_)
 refine G.stepD (OD.lss rfl rfl rfl) rfl rfl rfl ?_
 refine G.nil (GE.then_ (GC.seq ?_))
 refine GC.cond rfl (fun hc5 => ?_) (fun hc5 => ?_)
 replace hc5 := of_decide_eq_true hc5
 refine GC.skip (GE.then_ (GC.seq (GC.block (GC.seq (GC.region ?_)))))
 refine G.stepD (OD.move rfl rfl) rfl rfl rfl ?_
 refine G.stepD (OD.indexAddr rfl et22 rfl (Ent.drop 2 ex) rfl (by omega)) rfl rfl rfl ?_
 refine G.stepD (OD.loadInt rfl ti3 rfl (Ent.drop 2 ex) (by omega)) rfl rfl rfl ?_
 refine G.stepD (OD.assign rfl rfl) rfl rfl rfl ?_
 refine G.stepD (OD.assign rfl rfl) rfl rfl rfl ?_
 refine G.nil (GE.then_ (GC.seq (GC.region ?_)))
 refine G.stepD (OD.move rfl rfl) rfl rfl rfl ?_
 refine G.stepD (OD.fieldAddr rfl rfl fa24_0) rfl rfl rfl ?_
 refine G.stepD (OD.load rfl ti3 rfl (i := 1) rfl rfl) rfl rfl rfl ?_
 refine G.stepD (OD.subI rfl rfl rfl (by omega)) rfl rfl rfl ?_
 refine G.step (OG.call [.int .i64 (x.getD (i) 0), .int .i64 (0), .int .i64 (cr - 1)] ent62 rfl rfl rfl rfl (by exact inside_w)) rfl rfl rfl ?_
 rintro _ _ ⟨rfl, rfl⟩
 refine G.stepD (OD.not rfl rfl) rfl rfl rfl ?_
 refine G.stepD (OD.move rfl rfl) rfl rfl rfl ?_
 rcases Bool.eq_false_or_eq_true (!(inB (x.getD (i) 0) 0 (cr - 1))) with hg6 | hg6
 have hg6e := hg6
 refine G.at [] 0 (env' := [(1, vx), (2, .pointer (some ⟨g1, 0, none⟩)), (4, .pointer (some ⟨g2, 0, none⟩)), (22, vx), (23, .int .i64 ((x.length : Nat))), (24, .int .i64 ((i : Int))), (25, .bool (decide ((i : Int) < (x.length : Nat)))), (26, .int .i64 ((i : Int))), (27, elemPtr vx 1 (i)), (28, .int .i64 (x.getD (i) 0)), (6, .int .i64 ((i : Int))), (7, .int .i64 (x.getD (i) 0)), (29, .int .i64 (x.getD (i) 0)), (30, .pointer (some ⟨g1, 0, none⟩)), (31, .int .i64 (cr)), (32, .int .i64 (cr - 1)), (33, .bool (inB (x.getD (i) 0) 0 (cr - 1))), (34, .bool true), (35, .bool true)]) (⟨rfl, rfl, rfl, rfl, rfl, rfl, rfl, rfl, rfl, rfl, rfl, rfl, rfl, rfl, rfl, rfl, rfl, (congrArg (fun b => some (Value.bool b)) hg6e), (congrArg (fun b => some (Value.bool b)) hg6e), trivial⟩) rfl ?_
 replace hg6 := eq_false_of_not hg6
 refine G.skipG rfl rfl rfl rfl rfl rfl (G.skipG rfl rfl rfl rfl rfl rfl (G.skipG rfl rfl rfl rfl rfl rfl (G.skipU rfl rfl rfl rfl rfl (G.skipU rfl rfl rfl rfl rfl (G.skipU rfl rfl rfl rfl rfl (G.skipU rfl rfl rfl rfl rfl (G.skipU rfl rfl rfl rfl rfl (G.skipU rfl rfl rfl rfl rfl (G.skipU rfl rfl rfl rfl rfl (G.skipG rfl rfl rfl rfl rfl rfl ?_))))))))))
 refine G.stepD (OD.pickT rfl rfl rfl) rfl rfl rfl ?_
 refine G.nil (GE.then_ (GC.condT rfl (GC.seq (GC.region ?_))))
 refine G.stepD (OD.build (idx := []) (xs := []) (vs := []) (cs := []) (zs := [.int .i64 (0), .slice none 0 0]) (r := [.int .i64 (0), .slice none 0 0]) rfl ti24 rfl rfl rfl trivial rfl) rfl rfl rfl ?_
 refine G.stepD0 (OD.store rfl ti24 rfl rfl (us := [.int .i64 (0), .slice none 0 0]) rfl rfl rfl (i := 0) rfl rfl) rfl rfl ?_
 refine G.stepD (OD.assign rfl rfl) rfl rfl rfl ?_
 refine G.nil (GE.then_ (GC.ret (GE.blockR (GE.passR (GE.passR (GE.blockR (GE.passR ?_)))))))
 refine GE.nilInts 3 ?_
 exact GE.body [0] 2 (resN rfl (RVs.cons (rv_cells ti24 rfl (i := 1) rfl rfl) (RVs.cons (rv_tmp rfl) RVs.nil)) rfl) rfl (⟨(.slice none 0 0), congr (congrArg (fun (a0 : Int) (a2 : Bool) => (.tuple #[.agg #[.int .i64 (a0), (.slice none 0 0)], .bool (a2)] : Value)) (((sub_no (by rw [subOk, any_hit (by omega) (sb_bad1 hg6e)]; simp)).1 : (0 : Int) = subRk cr cd x))) (((sub_no (by rw [subOk, any_hit (by omega) (sb_bad1 hg6e)]; simp)).2.2 : (false : Bool) = subOk cr cd x)), IsS.nil, congrArg (fun (l0 : List Int) => ints 3 (.slice none 0 0) l0 :: own) (((sub_no (by rw [subOk, any_hit (by omega) (sb_bad1 hg6e)]; simp)).2.1 : [] = subDt cr cd x))⟩)
 have hg6e := hg6
 refine G.at [] 0 (env' := [(1, vx), (2, .pointer (some ⟨g1, 0, none⟩)), (4, .pointer (some ⟨g2, 0, none⟩)), (22, vx), (23, .int .i64 ((x.length : Nat))), (24, .int .i64 ((i : Int))), (25, .bool (decide ((i : Int) < (x.length : Nat)))), (26, .int .i64 ((i : Int))), (27, elemPtr vx 1 (i)), (28, .int .i64 (x.getD (i) 0)), (6, .int .i64 ((i : Int))), (7, .int .i64 (x.getD (i) 0)), (29, .int .i64 (x.getD (i) 0)), (30, .pointer (some ⟨g1, 0, none⟩)), (31, .int .i64 (cr)), (32, .int .i64 (cr - 1)), (33, .bool (inB (x.getD (i) 0) 0 (cr - 1))), (34, .bool false), (35, .bool false)]) (⟨rfl, rfl, rfl, rfl, rfl, rfl, rfl, rfl, rfl, rfl, rfl, rfl, rfl, rfl, rfl, rfl, rfl, (congrArg (fun b => some (Value.bool b)) hg6e), (congrArg (fun b => some (Value.bool b)) hg6e), trivial⟩) rfl ?_
 replace hg6 := eq_true_of_not hg6
 refine G.stepGD (OD.move rfl rfl) rfl rfl rfl rfl rfl ?_
 refine G.stepGD (OD.gtr rfl rfl rfl) rfl rfl rfl rfl rfl ?_
 refine G.stepGD (OD.move rfl rfl) rfl rfl rfl rfl rfl ?_
 rcases Bool.eq_false_or_eq_true (decide (0 < (i : Int))) with hg7 | hg7
 have hg7e := hg7
 refine G.at [] 0 (env' := [(1, vx), (2, .pointer (some ⟨g1, 0, none⟩)), (4, .pointer (some ⟨g2, 0, none⟩)), (22, vx), (23, .int .i64 ((x.length : Nat))), (24, .int .i64 ((i : Int))), (25, .bool (decide ((i : Int) < (x.length : Nat)))), (26, .int .i64 ((i : Int))), (27, elemPtr vx 1 (i)), (28, .int .i64 (x.getD (i) 0)), (6, .int .i64 ((i : Int))), (7, .int .i64 (x.getD (i) 0)), (29, .int .i64 (x.getD (i) 0)), (30, .pointer (some ⟨g1, 0, none⟩)), (31, .int .i64 (cr)), (32, .int .i64 (cr - 1)), (33, .bool (inB (x.getD (i) 0) 0 (cr - 1))), (34, .bool false), (35, .bool false), (36, .int .i64 ((i : Int))), (37, .bool true), (38, .bool true)]) (⟨rfl, rfl, rfl, rfl, rfl, rfl, rfl, rfl, rfl, rfl, rfl, rfl, rfl, rfl, rfl, rfl, rfl, rfl, rfl, rfl, (congrArg (fun b => some (Value.bool b)) hg7e), (congrArg (fun b => some (Value.bool b)) hg7e), trivial⟩) rfl ?_
 replace hg7 := of_decide_eq_true hg7
 refine G.stepGD (OD.move rfl rfl) rfl rfl rfl rfl rfl ?_
 refine G.stepGD (OD.move rfl rfl) rfl rfl rfl rfl rfl ?_
 refine G.stepGD (OD.subI rfl rfl rfl (by omega)) rfl rfl rfl rfl rfl ?_
 refine G.stepGD (OD.indexAddr rfl et22 rfl (Ent.drop 2 ex) rfl (by omega)) rfl rfl rfl rfl rfl ?_
 refine G.stepGD (OD.loadInt rfl ti3 rfl (Ent.drop 2 ex) (by omega)) rfl rfl rfl rfl rfl ?_
 refine G.stepGD (OD.move rfl rfl) rfl rfl rfl rfl rfl ?_
 refine G.stepGD (OD.geq rfl rfl rfl) rfl rfl rfl rfl rfl ?_
 refine G.stepGD (OD.pickT rfl rfl rfl) rfl rfl rfl rfl rfl ?_
 refine G.stepD (OD.pickF rfl rfl rfl) rfl rfl rfl ?_
 refine G.nil (GE.then_ ?_)
 refine GC.cond rfl (fun hc8 => ?_) (fun hc8 => ?_)
 replace hc8 := of_decide_eq_true hc8
 refine GC.seq (GC.region ?_)
 refine G.stepD (OD.build (idx := []) (xs := []) (vs := []) (cs := []) (zs := [.int .i64 (0), .slice none 0 0]) (r := [.int .i64 (0), .slice none 0 0]) rfl ti24 rfl rfl rfl trivial rfl) rfl rfl rfl ?_
 refine G.stepD0 (OD.store rfl ti24 rfl rfl (us := [.int .i64 (0), .slice none 0 0]) rfl rfl rfl (i := 0) rfl rfl) rfl rfl ?_
 refine G.stepD (OD.assign rfl rfl) rfl rfl rfl ?_
 refine G.nil (GE.then_ (GC.ret (GE.blockR (GE.passR (GE.passR (GE.blockR (GE.passR ?_)))))))
 refine GE.nilInts 3 ?_
 exact GE.body [0] 2 (resN rfl (RVs.cons (rv_cells ti24 rfl (i := 1) rfl rfl) (RVs.cons (rv_tmp rfl) RVs.nil)) rfl) rfl (⟨(.slice none 0 0), congr (congrArg (fun (a0 : Int) (a2 : Bool) => (.tuple #[.agg #[.int .i64 (a0), (.slice none 0 0)], .bool (a2)] : Value)) (((sub_no (by rw [subOk, any_hit (by omega) (sb_bad2 hg7e hc8)]; simp)).1 : (0 : Int) = subRk cr cd x))) (((sub_no (by rw [subOk, any_hit (by omega) (sb_bad2 hg7e hc8)]; simp)).2.2 : (false : Bool) = subOk cr cd x)), IsS.nil, congrArg (fun (l0 : List Int) => ints 3 (.slice none 0 0) l0 :: own) (((sub_no (by rw [subOk, any_hit (by omega) (sb_bad2 hg7e hc8)]; simp)).2.1 : [] = subDt cr cd x))⟩)
 replace hc8 := of_decide_eq_false hc8
 refine GC.skip (GE.blockN (GE.then_ (GC.region ?_)))
 refine G.stepD (OD.addI rfl rfl rfl (by omega)) rfl rfl rfl ?_
 refine G.stepD (OD.move rfl rfl) rfl rfl rfl ?_
 refine G.nil ?_
 exact GE.again (i + 1) (⟨by omega, any_succ ht (sb_ok2 hg6e hc8)⟩) (by first | omega | (dsimp only; omega)) ⟨rfl, rfl, rfl, rfl, rfl, rfl, trivial⟩ [] 0 rfl
 have hg7e := hg7
 refine G.at [] 0 (env' := [(1, vx), (2, .pointer (some ⟨g1, 0, none⟩)), (4, .pointer (some ⟨g2, 0, none⟩)), (22, vx), (23, .int .i64 ((x.length : Nat))), (24, .int .i64 ((i : Int))), (25, .bool (decide ((i : Int) < (x.length : Nat)))), (26, .int .i64 ((i : Int))), (27, elemPtr vx 1 (i)), (28, .int .i64 (x.getD (i) 0)), (6, .int .i64 ((i : Int))), (7, .int .i64 (x.getD (i) 0)), (29, .int .i64 (x.getD (i) 0)), (30, .pointer (some ⟨g1, 0, none⟩)), (31, .int .i64 (cr)), (32, .int .i64 (cr - 1)), (33, .bool (inB (x.getD (i) 0) 0 (cr - 1))), (34, .bool false), (35, .bool false), (36, .int .i64 ((i : Int))), (37, .bool false), (38, .bool false)]) (⟨rfl, rfl, rfl, rfl, rfl, rfl, rfl, rfl, rfl, rfl, rfl, rfl, rfl, rfl, rfl, rfl, rfl, rfl, rfl, rfl, (congrArg (fun b => some (Value.bool b)) hg7e), (congrArg (fun b => some (Value.bool b)) hg7e), trivial⟩) rfl ?_
 replace hg7 := of_decide_eq_false hg7
 refine G.skipG rfl rfl rfl rfl rfl rfl (G.skipG rfl rfl rfl rfl rfl rfl (G.skipG rfl rfl rfl rfl rfl rfl (G.skipG rfl rfl rfl rfl rfl rfl (G.skipG rfl rfl rfl rfl rfl rfl (G.skipG rfl rfl rfl rfl rfl rfl (G.skipG rfl rfl rfl rfl rfl rfl ?_))))))
 refine G.stepGD (OD.pickF rfl rfl rfl) rfl rfl rfl rfl rfl ?_
 refine G.stepD (OD.pickF rfl rfl rfl) rfl rfl rfl ?_
 refine G.nil (GE.then_ (GC.condF rfl (GC.skip (GE.blockN (GE.then_ (GC.region ?_))))))
 refine G.stepD (OD.addI rfl rfl rfl (by omega)) rfl rfl rfl ?_
 refine G.stepD (OD.move rfl rfl) rfl rfl rfl ?_
 refine G.nil ?_
 exact GE.again (i + 1) (⟨by omega, any_succ ht (sb_ok1 hg6e hg7e)⟩) (by first | omega | (dsimp only; omega)) ⟨rfl, rfl, rfl, rfl, rfl, rfl, trivial⟩ [] 0 rfl
 replace hc5 := of_decide_eq_false hc5
 have hall : (List.range x.length).any (subBad cr x) = false := by rw [show x.length = i by omega]; exact ht
 obtain ⟨hx4, hxr⟩ := sub_rows hall (by omega)
 have hsd := subD_len cr cd x
 refine GC.exit (GE.pass (GE.pass (GE.hit (GE.then_ (GC.seq (GC.region ?_))))))
 refine G.stepD (OD.move rfl rfl) rfl rfl rfl ?_
 refine G.stepD (OD.len rfl rfl et22 rfl (Ent.drop 2 ex)) rfl rfl rfl ?_
 refine G.stepD (OD.build (idx := [0]) (xs := [.tmp 51]) (vs := [.int .i64 ((x.length : Nat))]) (cs := [[.int .i64 ((x.length : Nat))]]) (zs := [.int .i64 (0), .slice none 0 0]) (r := [.int .i64 ((x.length : Nat)), .slice none 0 0]) rfl ti24 rfl rfl rfl ⟨rfl, trivial⟩ rfl) rfl rfl rfl ?_
 refine G.step (OG.alloc rfl ti24 (zs := [.int .i64 (0), .slice none 0 0]) rfl) rfl rfl rfl ?_
 rintro _ _ ⟨g9, rfl, rfl⟩
 refine G.stepD0 (OD.store rfl ti24 rfl rfl (us := [.int .i64 ((x.length : Nat)), .slice none 0 0]) rfl rfl rfl (i := 0) rfl rfl) rfl rfl ?_
 refine G.nil (GE.then_ (GC.seq (GC.seq (GC.region ?_))))
 refine G.stepD (OD.move rfl rfl) rfl rfl rfl ?_
 refine G.stepD (OD.len rfl rfl et22 rfl (Ent.drop 3 ex)) rfl rfl rfl ?_
 refine G.stepD (OD.move rfl rfl) rfl rfl rfl ?_
 refine G.nil (GE.then_ (GC.block ?_))
 refine GC.nilInts 3 ?_
 refine GC.loop (ι := Nat × List Int × Value) (fun ⟨a, ys, v⟩ => [(1, vx), (2, .pointer (some ⟨g1, 0, none⟩)), (4, .pointer (some ⟨g2, 0, none⟩)), (8, .pointer (some ⟨g9, 0, none⟩)), (53, vx), (54, .int .i64 ((x.length : Nat))), (55, .int .i64 ((a : Int)))]) (fun ⟨a, ys, v⟩ => ints 3 v ys :: box g9 24 [.int .i64 ((x.length : Nat)), v] :: box g2 24 [.int .i64 (0), .slice none 0 0] :: box g1 24 [.int .i64 (cr), vcd] :: own) (fun ⟨a, ys, v⟩ => (a ≤ x.length) ∧ (IsS v) ∧ (ys.length = a * x.length) ∧ (ys = (List.range a).foldl (fun (o : List Int) (i : Nat) => (List.range x.length).foldl (subR cr cd x i) o) [])) (fun ⟨a, ys, v⟩ => x.length - a) (0, [], (.slice none 0 0)) (⟨by omega, IsS.nil, by simp, rfl⟩) ⟨rfl, rfl, rfl, rfl, rfl, rfl, rfl, trivial⟩ [] 0 rfl ?_
 rintro ⟨a, ys, v⟩ ⟨ha, hv, hyl, hy⟩
 refine GC.seq (GC.region ?_)
 refine G.stepD (OD.lss rfl rfl rfl) rfl rfl rfl ?_
 refine G.nil (GE.then_ (GC.seq ?_))
 refine GC.cond rfl (fun hc10 => ?_) (fun hc10 => ?_)
 replace hc10 := of_decide_eq_true hc10
 have hra := hxr a (by omega)
 have hmm : a * x.length ≤ 4 * 4 := Nat.mul_le_mul (by omega) (by omega)
 refine GC.skip (GE.then_ (GC.seq (GC.block (GC.seq (GC.region ?_)))))
 refine G.stepD (OD.indexAddr rfl et22 rfl (Ent.drop 4 ex) rfl (by omega)) rfl rfl rfl ?_
 refine G.stepD (OD.loadInt rfl ti3 rfl (Ent.drop 4 ex) (by omega)) rfl rfl rfl ?_
 refine G.stepD (OD.assign rfl rfl) rfl rfl rfl ?_
 refine G.nil (GE.then_ (GC.seq (GC.region ?_)))
 refine G.stepD (OD.move rfl rfl) rfl rfl rfl ?_
 refine G.stepD (OD.len rfl rfl et22 rfl (Ent.drop 4 ex)) rfl rfl rfl ?_
 refine G.stepD (OD.move rfl rfl) rfl rfl rfl ?_
 refine G.nil (GE.then_ (GC.block ?_))
 refine GC.loop (ι := Nat × List Int × Value) (fun ⟨b, zs, u⟩ => [(1, vx), (2, .pointer (some ⟨g1, 0, none⟩)), (4, .pointer (some ⟨g2, 0, none⟩)), (8, .pointer (some ⟨g9, 0, none⟩)), (53, vx), (54, .int .i64 ((x.length : Nat))), (55, .int .i64 ((a : Int))), (10, .int .i64 (x.getD (a) 0)), (59, vx), (60, .int .i64 ((x.length : Nat))), (61, .int .i64 ((b : Int)))]) (fun ⟨b, zs, u⟩ => ints 3 u zs :: box g9 24 [.int .i64 ((x.length : Nat)), u] :: box g2 24 [.int .i64 (0), .slice none 0 0] :: box g1 24 [.int .i64 (cr), vcd] :: own) (fun ⟨b, zs, u⟩ => (b ≤ x.length) ∧ (IsS u) ∧ (zs.length = a * x.length + b) ∧ (zs = (List.range b).foldl (subR cr cd x a) ys)) (fun ⟨b, zs, u⟩ => x.length - b) (0, ys, v) (⟨by omega, hv, by omega, rfl⟩) ⟨rfl, rfl, rfl, rfl, rfl, rfl, rfl, rfl, rfl, rfl, rfl, trivial⟩ [] 0 rfl ?_
 rintro ⟨b, zs, u⟩ ⟨hb, hu, hzl, hz⟩
 refine GC.seq (GC.region ?_)
 refine G.stepD (OD.lss rfl rfl rfl) rfl rfl rfl ?_
 refine G.nil (GE.then_ (GC.seq ?_))
 refine GC.cond rfl (fun hc11 => ?_) (fun hc11 => ?_)
 replace hc11 := of_decide_eq_true hc11
 have hrb := hxr b (by omega)
 have hxx := idx_bd (n := cr) (i := x.getD a 0) (j := x.getD b 0) ⟨by omega, by omega⟩ ⟨by omega, by omega⟩ (by omega)
 refine GC.skip (GE.then_ (GC.seq (GC.block (GC.seq (GC.region ?_)))))
 refine G.stepD (OD.indexAddr rfl et22 rfl (Ent.drop 4 ex) rfl (by omega)) rfl rfl rfl ?_
 refine G.stepD (OD.loadInt rfl ti3 rfl (Ent.drop 4 ex) (by omega)) rfl rfl rfl ?_
 refine G.stepD (OD.assign rfl rfl) rfl rfl rfl ?_
 refine G.nil (GE.then_ ?_)
 refine GC.at [] 0 (env' := [(1, vx), (2, .pointer (some ⟨g1, 0, none⟩)), (4, .pointer (some ⟨g2, 0, none⟩)), (8, .pointer (some ⟨g9, 0, none⟩)), (53, vx), (54, .int .i64 ((x.length : Nat))), (55, .int .i64 ((a : Int))), (10, .int .i64 (x.getD (a) 0)), (59, vx), (60, .int .i64 ((x.length : Nat))), (61, .int .i64 ((b : Int))), (12, .int .i64 (x.getD (b) 0))]) ⟨rfl, rfl, rfl, rfl, rfl, rfl, rfl, rfl, rfl, rfl, rfl, rfl, trivial⟩ rfl ?_
 refine GC.par (its := [⟨65, [], [], [], [], fun _ => .pointer (some ⟨g9, 1, none⟩), fun _ => True, fun _ => []⟩,
     ⟨66, [(0, 65)], [], [], [], fun _ => u, fun _ => True, fun _ => []⟩,
     ⟨67, [], [], [], [], fun _ => .agg #[.int .i64 (cr), vcd], fun _ => True, fun _ => []⟩,
     ⟨68, [], [], [], [], fun _ => .int .i64 (x.getD (a) 0), fun _ => True, fun _ => []⟩,
     ⟨69, [], [], [], [], fun _ => .int .i64 (x.getD (b) 0), fun _ => True, fun _ => []⟩,
     ⟨70, [(2, 67), (3, 68), (4, 69)], [], [], [], fun _ => .int .i64 (atI cr cd (x.getD (a) 0) (x.getD (b) 0)), fun _ => True, fun _ => []⟩,
     ⟨71, [(5, 70)], [], [], [6], fun ds => ((ds.getD 0 []).getD 0 undef), fun ds => IsS ((ds.getD 0 []).getD 0 undef), fun ds => [ints 3 ((ds.getD 0 []).getD 0 undef) [atI cr cd (x.getD (a) 0) (x.getD (b) 0)]]⟩]) (by kernel_rfl) (by kernel_rfl) (POps.cons ?_ (POps.cons ?_ (POps.cons ?_ (POps.cons ?_ (POps.cons ?_ (POps.cons ?_ (POps.cons ?_ POps.nil))))))) ?_
 intro θ R hd
 exact Opp.plain (OG.imp (OD.fieldAddr rfl rfl fa24_1) (by rintro _ _ ⟨rfl, rfl⟩; exact ⟨[], rfl, trivial, rfl⟩)) rfl
 intro θ R hd
 obtain ⟨h0d, _⟩ := hd
 exact Opp.plain (OG.imp (OD.load rfl ti22 rfl (i := 1) rfl rfl) (by rintro _ _ ⟨rfl, rfl⟩; exact ⟨[], rfl, trivial, rfl⟩)) rfl
 intro θ R hd
 exact Opp.plain (OG.imp (OD.loadAgg rfl ti24 rfl (i := 3) rfl (us := [.int .i64 (cr), vcd]) rfl rfl) (by rintro _ _ ⟨rfl, rfl⟩; exact ⟨[], rfl, trivial, rfl⟩)) rfl
 intro θ R hd
 exact Opp.plain (OG.imp (OD.move rfl rfl) (by rintro _ _ ⟨rfl, rfl⟩; exact ⟨[], rfl, trivial, rfl⟩)) rfl
 intro θ R hd
 exact Opp.plain (OG.imp (OD.move rfl rfl) (by rintro _ _ ⟨rfl, rfl⟩; exact ⟨[], rfl, trivial, rfl⟩)) rfl
 intro θ R hd
 obtain ⟨h2d, h3d, h4d, _⟩ := hd
 exact Opp.plain (OG.imp (OG.call [.agg #[.int .i64 (cr), vcd], .int .i64 (x.getD (a) 0), .int .i64 (x.getD (b) 0)] ent70 rfl rfl rfl rfl (by exact (at_w scd (Ent.drop 4 ecd.app) (by omega)))) (by rintro _ _ ⟨rfl, rfl⟩; exact ⟨[], rfl, trivial, rfl⟩)) rfl
 intro θ R hd
 obtain ⟨h5d, _⟩ := hd
 exact Opp.plain (OG.imp (OG.buildInts (xs := [.tmp 70]) (is := [atI cr cd (x.getD (a) 0) (x.getD (b) 0)]) rfl et22 rfl rfl rfl rfl rfl) (by rintro v14 _ ⟨hs15, rfl⟩; exact ⟨[v14], rfl, hs15, rfl⟩)) rfl
 intro θ hall
 obtain ⟨_, _, _, _, _, _, h6a, _⟩ := hall
 refine G.at [] 0 (env' := [(1, vx), (2, .pointer (some ⟨g1, 0, none⟩)), (4, .pointer (some ⟨g2, 0, none⟩)), (8, .pointer (some ⟨g9, 0, none⟩)), (53, vx), (54, .int .i64 ((x.length : Nat))), (55, .int .i64 ((a : Int))), (10, .int .i64 (x.getD (a) 0)), (59, vx), (60, .int .i64 ((x.length : Nat))), (61, .int .i64 ((b : Int))), (66, u), (71, ((θ 6).getD 0 undef))]) ⟨rfl, rfl, rfl, rfl, rfl, rfl, rfl, rfl, rfl, rfl, rfl, rfl, rfl, trivial⟩ (own' := ints 3 ((θ 6).getD 0 undef) [atI cr cd (x.getD (a) 0) (x.getD (b) 0)] :: ints 3 u zs :: box g9 24 [.int .i64 ((x.length : Nat)), u] :: box g2 24 [.int .i64 (0), .slice none 0 0] :: box g1 24 [.int .i64 (cr), vcd] :: own) rfl ?_
 have hs16 : IsS ((θ 6).getD 0 undef) := h6a
 clear h6a
 generalize ((θ 6).getD 0 undef) = v17 at *
 show G _ _ _ [_, _, _] _ _ _ _
 refine G.step (OG.appendInts 1 rfl rfl et22 rfl rfl rfl (Ent.ints (i := 0) rfl) (by first | omega | (simp; omega))) rfl rfl rfl ?_
 rintro v18 _ ⟨hs19, rfl⟩
 refine G.stepD (OD.fieldAddr rfl rfl fa24_1) rfl rfl rfl ?_
 refine G.stepD0 (OD.store rfl ti22 rfl rfl (us := [v18]) (one_cells (IsS.one hs19)) rfl (allC (IsS.one hs19) rfl) (i := 2) rfl rfl) rfl rfl ?_
 refine G.nil (GE.blockN (GE.then_ (GC.region ?_)))
 refine G.stepD (OD.addI rfl rfl rfl (by omega)) rfl rfl rfl ?_
 refine G.stepD (OD.move rfl rfl) rfl rfl rfl ?_
 refine G.nil ?_
 exact GE.again (b + 1, zs ++ [atI cr cd (x.getD (a) 0) (x.getD (b) 0)], v18) (⟨by omega, hs19, by rw [List.length_append, List.length_singleton]; omega, fold_next hz rfl⟩) (by first | omega | (dsimp only; omega)) ⟨rfl, rfl, rfl, rfl, rfl, rfl, rfl, rfl, rfl, rfl, rfl, trivial⟩ [1, 1, 1, 1] 1 rfl
 replace hc11 := of_decide_eq_false hc11
 refine GC.exit (GE.pass (GE.pass (GE.hit (GE.blockN (GE.then_ (GC.region ?_))))))
 refine G.stepD (OD.addI rfl rfl rfl (by omega)) rfl rfl rfl ?_
 refine G.stepD (OD.move rfl rfl) rfl rfl rfl ?_
 refine G.nil ?_
 exact GE.again (a + 1, zs, u) (⟨by omega, hu, by rw [hzl, Nat.succ_mul]; omega, fold_next hy (by rw [hz, show b = x.length by omega])⟩) (by first | omega | (dsimp only; omega)) ⟨rfl, rfl, rfl, rfl, rfl, rfl, rfl, trivial⟩ [] 0 rfl
 replace hc10 := of_decide_eq_false hc10
 refine GC.exit (GE.pass (GE.pass (GE.hit (GE.then_ (GC.seq (GC.region ?_))))))
 refine G.stepD (OD.loadAgg rfl ti24 rfl (i := 1) rfl (us := [.int .i64 ((x.length : Nat)), v]) rfl rfl) rfl rfl rfl ?_
 refine G.stepD0 (OD.store rfl ti24 rfl rfl (us := [.int .i64 ((x.length : Nat)), v]) rfl rfl (allC rfl (allC (IsS.one hv) rfl)) (i := 2) rfl rfl) rfl rfl ?_
 refine G.stepD (OD.assign rfl rfl) rfl rfl rfl ?_
 refine G.nil (GE.then_ (GC.ret ?_))
 exact GE.body [0] 3 (resN rfl (RVs.cons (rv_cells ti24 rfl (i := 2) rfl rfl) (RVs.cons (rv_tmp rfl) RVs.nil)) rfl) rfl (⟨v, congr (congrArg (fun (a0 : Int) (a2 : Bool) => (.tuple #[.agg #[.int .i64 (a0), v], .bool (a2)] : Value)) (((sub_yes (by rw [subOk, hg3, hall]; simp only [Bool.true_and, Bool.not_false, Bool.and_true, Bool.not_eq_true', beq_eq_false_iff_ne, ne_eq]; omega)).1 : ((x.length : Nat) : Int) = subRk cr cd x))) (((sub_yes (by rw [subOk, hg3, hall]; simp only [Bool.true_and, Bool.not_false, Bool.and_true, Bool.not_eq_true', beq_eq_false_iff_ne, ne_eq]; omega)).2.2 : (true : Bool) = subOk cr cd x)), hv, congrArg (fun (l0 : List Int) => ints 3 v l0 :: own) ((by rw [hy, show a = x.length by omega]; exact (sub_yes (by rw [subOk, hg3, hall]; simp only [Bool.true_and, Bool.not_false, Bool.and_true, Bool.not_eq_true', beq_eq_false_iff_ne, ne_eq]; omega)).2.1 : ys = subDt cr cd x))⟩)

set_option maxHeartbeats 4000000 in
set_option maxRecDepth 100000 in
theorem specSubCartan_w {W : World} {own : List Asn} {cr : Int} {vcd : Value} {cd : List Int} {vx : Value} {x : List Int}  (scd : IsS vcd) (ecd : Ent own fun w => Ints w vcd cd)   (sx : IsS vx) (ex : Ent own fun w => Ints w vx x)  (hl0 : cd.length ≤ 1073741824) (hl : x.length ≤ 1073741824) : Spec Tryd.prog 30 [.agg #[.int .i64 (cr), vcd], vx] W own (fun v ow => ∃ (r1 : Value), v = .tuple #[.agg #[.int .i64 (subRk cr cd x), r1], .bool (subOk cr cd x)] ∧ IsS r1 ∧ ow = ints 3 r1 (subDt cr cd x) :: own) := by
 refine Spec.enter Tryd.f30 _ Tryd.func30 rfl (n := 83) rfl rfl ?_
 refine GC.seq (GC.region ?_)
 refine G.step (OG.box (cs := [.int .i64 (cr), vcd]) rfl rfl rfl) rfl rfl rfl ?_
 rintro _ _ ⟨g1, rfl, rfl⟩
 refine G.step (OG.alloc rfl ti24 (zs := [.int .i64 (0), .slice none 0 0]) rfl) rfl rfl rfl ?_
 rintro _ _ ⟨g2, rfl, rfl⟩
 refine G.stepD (OD.assign rfl rfl) rfl rfl rfl ?_
 refine G.nil (GE.then_ (GC.seq (GC.seq (GC.region ?_))))
 refine G.stepD (OD.loadAgg rfl ti24 rfl (i := 1) rfl (us := [.int .i64 (cr), vcd]) rfl rfl) rfl rfl rfl ?_
 refine G.step (OG.call [.agg #[.int .i64 (cr), vcd]] ent21 rfl rfl rfl rfl (by exact (specIsCartan_w scd (Ent.drop 2 ecd) (hl0)))) rfl rfl rfl ?_
 rintro _ _ ⟨rfl, rfl⟩
 refine G.stepD (OD.not rfl rfl) rfl rfl rfl ?_
 refine G.stepD (OD.move rfl rfl) rfl rfl rfl ?_
 rcases Bool.eq_false_or_eq_true (!((tyS cr cd).isSome)) with hg3 | hg3
 have hg3e := hg3
 refine G.at [] 0 (env' := [(0, .agg #[.int .i64 (cr), vcd]), (1, vx), (2, .pointer (some ⟨g1, 0, none⟩)), (4, .pointer (some ⟨g2, 0, none⟩)), (5, .bool false), (10, .agg #[.int .i64 (cr), vcd]), (11, .bool ((tyS cr cd).isSome)), (12, .bool true), (13, .bool true)]) (⟨rfl, rfl, rfl, rfl, rfl, rfl, rfl, (congrArg (fun b => some (Value.bool b)) hg3e), (congrArg (fun b => some (Value.bool b)) hg3e), trivial⟩) rfl ?_
 replace hg3 := eq_false_of_not hg3
 refine G.skipG rfl rfl rfl rfl rfl rfl (G.skipG rfl rfl rfl rfl rfl rfl (G.skipG rfl rfl rfl rfl rfl rfl ?_))
 refine G.stepD (OD.pickT rfl rfl rfl) rfl rfl rfl ?_
 refine G.nil (GE.then_ (GC.condT rfl (GC.seq (GC.region ?_))))
 refine G.stepD (OD.build (idx := []) (xs := []) (vs := []) (cs := []) (zs := [.int .i64 (0), .slice none 0 0]) (r := [.int .i64 (0), .slice none 0 0]) rfl ti24 rfl rfl rfl trivial rfl) rfl rfl rfl ?_
 refine G.stepD0 (OD.store rfl ti24 rfl rfl (us := [.int .i64 (0), .slice none 0 0]) rfl rfl rfl (i := 0) rfl rfl) rfl rfl ?_
 refine G.stepD (OD.assign rfl rfl) rfl rfl rfl ?_
 refine G.nil (GE.then_ (GC.ret (GE.passR ?_)))
 refine GE.nilInts 3 ?_
 exact GE.body [0] 2 (resN rfl (RVs.cons (rv_cells ti24 rfl (i := 1) rfl rfl) (RVs.cons (rv_tmp rfl) RVs.nil)) rfl) rfl (⟨(.slice none 0 0), congr (congrArg (fun (a0 : Int) (a2 : Bool) => (.tuple #[.agg #[.int .i64 (a0), (.slice none 0 0)], .bool (a2)] : Value)) (((sub_no (by rw [subOk, hg3]; rfl)).1 : (0 : Int) = subRk cr cd x))) (((sub_no (by rw [subOk, hg3]; rfl)).2.2 : (false : Bool) = subOk cr cd x)), IsS.nil, congrArg (fun (l0 : List Int) => ints 3 (.slice none 0 0) l0 :: own) (((sub_no (by rw [subOk, hg3]; rfl)).2.1 : [] = subDt cr cd x))⟩)
 have hg3e := hg3
 refine G.at [] 0 (env' := [(0, .agg #[.int .i64 (cr), vcd]), (1, vx), (2, .pointer (some ⟨g1, 0, none⟩)), (4, .pointer (some ⟨g2, 0, none⟩)), (5, .bool false), (10, .agg #[.int .i64 (cr), vcd]), (11, .bool ((tyS cr cd).isSome)), (12, .bool false), (13, .bool false)]) (⟨rfl, rfl, rfl, rfl, rfl, rfl, rfl, (congrArg (fun b => some (Value.bool b)) hg3e), (congrArg (fun b => some (Value.bool b)) hg3e), trivial⟩) rfl ?_
 replace hg3 := eq_true_of_not hg3
 refine G.stepGD (OD.move rfl rfl) rfl rfl rfl rfl rfl ?_
 refine G.stepGD (OD.len rfl rfl et22 rfl (Ent.drop 2 ex)) rfl rfl rfl rfl rfl ?_
 refine G.stepGD (OD.eql rfl rfl rfl) rfl rfl rfl rfl rfl ?_
 refine G.stepD (OD.pickF rfl rfl rfl) rfl rfl rfl ?_
 refine G.nil (GE.then_ ?_)
 refine GC.cond rfl (fun hc4 => ?_) (fun hc4 => ?_)
 replace hc4 := eq_of_beq hc4
 refine GC.seq (GC.region ?_)
 refine G.stepD (OD.build (idx := []) (xs := []) (vs := []) (cs := []) (zs := [.int .i64 (0), .slice none 0 0]) (r := [.int .i64 (0), .slice none 0 0]) rfl ti24 rfl rfl rfl trivial rfl) rfl rfl rfl ?_
 refine G.stepD0 (OD.store rfl ti24 rfl rfl (us := [.int .i64 (0), .slice none 0 0]) rfl rfl rfl (i := 0) rfl rfl) rfl rfl ?_
 refine G.stepD (OD.assign rfl rfl) rfl rfl rfl ?_
 refine G.nil (GE.then_ (GC.ret (GE.passR ?_)))
 refine GE.nilInts 3 ?_
 exact GE.body [0] 2 (resN rfl (RVs.cons (rv_cells ti24 rfl (i := 1) rfl rfl) (RVs.cons (rv_tmp rfl) RVs.nil)) rfl) rfl (⟨(.slice none 0 0), congr (congrArg (fun (a0 : Int) (a2 : Bool) => (.tuple #[.agg #[.int .i64 (a0), (.slice none 0 0)], .bool (a2)] : Value)) (((sub_no (by simp [subOk, show x.length = 0 by omega])).1 : (0 : Int) = subRk cr cd x))) (((sub_no (by simp [subOk, show x.length = 0 by omega])).2.2 : (false : Bool) = subOk cr cd x)), IsS.nil, congrArg (fun (l0 : List Int) => ints 3 (.slice none 0 0) l0 :: own) (((sub_no (by simp [subOk, show x.length = 0 by omega])).2.1 : [] = subDt cr cd x))⟩)
 replace hc4 := ne_of_beq_false hc4
 have hcr := (tyS_ok hg3).1
 have hcd := (tyS_ok hg3).2
 refine GC.skip (GE.then_ (GC.seq (GC.region ?_)))
 refine G.stepD (OD.move rfl rfl) rfl rfl rfl ?_
 refine G.stepD (OD.len rfl rfl et22 rfl (Ent.drop 2 ex)) rfl rfl rfl ?_
 refine G.step (OG.buildInts (xs := []) (is := []) rfl et22 rfl rfl rfl rfl rfl) rfl rfl rfl ?_
 rintro v5 _ ⟨hs6, rfl⟩
 refine G.stepD (OD.build (idx := [0, 1]) (xs := [.tmp 20, .tmp 21]) (vs := [.int .i64 ((x.length : Nat)), v5]) (cs := [[.int .i64 ((x.length : Nat))], [v5]]) (zs := [.int .i64 (0), .slice none 0 0]) (r := [.int .i64 ((x.length : Nat)), v5]) rfl ti24 rfl rfl rfl ⟨rfl, ⟨(one_cells (IsS.one hs6)), trivial⟩⟩ rfl) rfl rfl rfl ?_
 refine G.step (OG.alloc rfl ti24 (zs := [.int .i64 (0), .slice none 0 0]) rfl) rfl rfl rfl ?_
 rintro _ _ ⟨g7, rfl, rfl⟩
 refine G.stepD0 (OD.store rfl ti24 rfl rfl (us := [.int .i64 ((x.length : Nat)), v5]) rfl rfl (allC rfl (allC (IsS.one hs6) rfl)) (i := 0) rfl rfl) rfl rfl ?_
 refine G.nil (GE.then_ (GC.seq (GC.seq (GC.region ?_))))
 refine G.stepD (OD.assign rfl rfl) rfl rfl rfl ?_
 refine G.nil (GE.then_ (GC.block ?_))
 refine GC.loop (ι := Nat) (fun i => [(1, vx), (2, .pointer (some ⟨g1, 0, none⟩)), (4, .pointer (some ⟨g2, 0, none⟩)), (6, .pointer (some ⟨g7, 0, none⟩)), (7, .int .i64 ((i : Int)))]) (fun i => box g7 24 [.int .i64 ((x.length : Nat)), v5] :: ints 3 v5 [] :: box g2 24 [.int .i64 (0), .slice none 0 0] :: box g1 24 [.int .i64 (cr), vcd] :: own) (fun i => (i ≤ x.length) ∧ ((List.range i).any (subBad cr x) = false)) (fun i => x.length - i) 0 (⟨by omega, rfl⟩) ⟨rfl, rfl, rfl, rfl, rfl, trivial⟩ [] 0 rfl ?_
 rintro i ⟨hi, ht⟩
 refine GC.seq (GC.seq (GC.region ?_))
 refine G.stepD (OD.move rfl rfl) rfl rfl rfl ?_
 refine G.stepD (OD.move rfl rfl) rfl rfl rfl ?_
 refine G.stepD (OD.len rfl rfl et22 rfl (Ent.drop 4 ex)) rfl rfl rfl ?_
 refine G.stepD (OD.lss rfl rfl rfl) rfl rfl rfl ?_
 refine G.nil (GE.then_ ?_)
 refine GC.cond rfl (fun hc8 => ?_) (fun hc8 => ?_)
 replace hc8 := of_decide_eq_true hc8
 refine GC.skip (GE.then_ (GC.seq (GC.block (GC.seq ?_))))
 rcases Bool.eq_false_or_eq_true (!(inB (x.getD (i) 0) 0 (cr - 1))) with hg9 | hg9
 have hg9p := hg9
 replace hg9p := eq_false_of_not hg9p
 refine GC.at [] 0 (env' := [(1, vx), (2, .pointer (some ⟨g1, 0, none⟩)), (4, .pointer (some ⟨g2, 0, none⟩)), (6, .pointer (some ⟨g7, 0, none⟩)), (7, .int .i64 ((i : Int)))]) ⟨rfl, rfl, rfl, rfl, rfl, trivial⟩ rfl ?_
 refine GC.par (its := [⟨29, [], [], [], [], fun _ => vx, fun _ => True, fun _ => []⟩,
     ⟨30, [], [], [], [], fun _ => .int .i64 ((i : Int)), fun _ => True, fun _ => []⟩,
     ⟨31, [(0, 29), (1, 30)], [], [], [], fun _ => elemPtr vx 1 (i), fun _ => True, fun _ => []⟩,
     ⟨32, [(2, 31)], [], [], [], fun _ => .int .i64 (x.getD (i) 0), fun _ => True, fun _ => []⟩,
     ⟨33, [], [], [], [], fun _ => .pointer (some ⟨g1, 0, none⟩), fun _ => True, fun _ => []⟩,
     ⟨34, [(4, 33)], [], [], [], fun _ => .int .i64 (cr), fun _ => True, fun _ => []⟩,
     ⟨35, [(5, 34)], [], [], [], fun _ => .int .i64 (cr - 1), fun _ => True, fun _ => []⟩,
     ⟨36, [(3, 32), (6, 35)], [], [], [], fun _ => .bool (inB (x.getD (i) 0) 0 (cr - 1)), fun _ => True, fun _ => []⟩,
     ⟨37, [(7, 36)], [], [], [], fun _ => .bool true, fun _ => True, fun _ => []⟩,
     ⟨38, [(8, 37)], [], [], [], fun _ => .bool true, fun _ => True, fun _ => []⟩,
     ⟨39, [(9, 38)], [], [], [], fun _ => undef, fun _ => True, fun _ => []⟩,
     ⟨40, [(9, 38), (10, 39)], [], [], [], fun _ => undef, fun _ => True, fun _ => []⟩,
     ⟨41, [(9, 38), (11, 40)], [], [], [], fun _ => undef, fun _ => True, fun _ => []⟩,
     ⟨42, [(12, 41)], [], [], [], fun _ => undef, fun _ => True, fun _ => []⟩,
     ⟨43, [(12, 41)], [], [], [], fun _ => undef, fun _ => True, fun _ => []⟩,
     ⟨44, [(12, 41), (14, 43)], [], [], [], fun _ => undef, fun _ => True, fun _ => []⟩,
     ⟨45, [(12, 41), (13, 42), (15, 44)], [], [], [], fun _ => undef, fun _ => True, fun _ => []⟩,
     ⟨46, [(12, 41), (16, 45)], [], [], [], fun _ => undef, fun _ => True, fun _ => []⟩,
     ⟨47, [(12, 41)], [], [], [], fun _ => undef, fun _ => True, fun _ => []⟩,
     ⟨48, [(12, 41)], [], [], [], fun _ => undef, fun _ => True, fun _ => []⟩,
     ⟨49, [(12, 41), (18, 47), (19, 48)], [], [], [], fun _ => undef, fun _ => True, fun _ => []⟩,
     ⟨50, [(12, 41), (20, 49)], [], [], [], fun _ => undef, fun _ => True, fun _ => []⟩,
     ⟨51, [(12, 41), (17, 46), (21, 50)], [], [], [], fun _ => undef, fun _ => True, fun _ => []⟩,
     ⟨52, [(9, 38), (12, 41), (22, 51)], [], [], [], fun _ => undef, fun _ => True, fun _ => []⟩,
     ⟨53, [(9, 38), (23, 52)], [], [], [], fun _ => .bool true, fun _ => True, fun _ => []⟩]) (by kernel_rfl) (by kernel_rfl) (POps.cons ?_ (POps.cons ?_ (POps.cons ?_ (POps.cons ?_ (POps.cons ?_ (POps.cons ?_ (POps.cons ?_ (POps.cons ?_ (POps.cons ?_ (POps.cons ?_ (POps.cons ?_ (POps.cons ?_ (POps.cons ?_ (POps.cons ?_ (POps.cons ?_ (POps.cons ?_ (POps.cons ?_ (POps.cons ?_ (POps.cons ?_ (POps.cons ?_ (POps.cons ?_ (POps.cons ?_ (POps.cons ?_ (POps.cons ?_ (POps.cons ?_ POps.nil))))))))))))))))))))))))) ?_
 intro θ R hd
 exact Opp.plain (OG.imp (OD.move rfl rfl) (by rintro _ _ ⟨rfl, rfl⟩; exact ⟨[], rfl, trivial, rfl⟩)) rfl
 intro θ R hd
 exact Opp.plain (OG.imp (OD.move rfl rfl) (by rintro _ _ ⟨rfl, rfl⟩; exact ⟨[], rfl, trivial, rfl⟩)) rfl
 intro θ R hd
 obtain ⟨h0d, h1d, _⟩ := hd
 exact Opp.plain (OG.imp (OD.indexAddr rfl et22 rfl (Ent.drop 4 ex.app) rfl (by omega)) (by rintro _ _ ⟨rfl, rfl⟩; exact ⟨[], rfl, trivial, rfl⟩)) rfl
 intro θ R hd
 obtain ⟨h2d, _⟩ := hd
 exact Opp.plain (OG.imp (OD.loadInt rfl ti3 rfl (Ent.drop 4 ex.app) (by omega)) (by rintro _ _ ⟨rfl, rfl⟩; exact ⟨[], rfl, trivial, rfl⟩)) rfl
 intro θ R hd
 exact Opp.plain (OG.imp (OD.fieldAddr rfl rfl fa24_0) (by rintro _ _ ⟨rfl, rfl⟩; exact ⟨[], rfl, trivial, rfl⟩)) rfl
 intro θ R hd
 obtain ⟨h4d, _⟩ := hd
 exact Opp.plain (OG.imp (OD.load rfl ti3 rfl (i := 3) rfl rfl) (by rintro _ _ ⟨rfl, rfl⟩; exact ⟨[], rfl, trivial, rfl⟩)) rfl
 intro θ R hd
 obtain ⟨h5d, _⟩ := hd
 exact Opp.plain (OG.imp (OD.subI rfl rfl rfl (by omega)) (by rintro _ _ ⟨rfl, rfl⟩; exact ⟨[], rfl, trivial, rfl⟩)) rfl
 intro θ R hd
 obtain ⟨h3d, h6d, _⟩ := hd
 exact Opp.plain (OG.imp (OG.call [.int .i64 (x.getD (i) 0), .int .i64 (0), .int .i64 (cr - 1)] ent68 rfl rfl rfl rfl (by exact l1In_w)) (by rintro _ _ ⟨rfl, rfl⟩; exact ⟨[], rfl, trivial, rfl⟩)) rfl
 intro θ R hd
 obtain ⟨h7d, _⟩ := hd
 exact Opp.plain (OG.imp (OD.not rfl rfl) (by rintro _ _ ⟨rfl, rfl⟩; exact ⟨[], congrArg Value.bool hg9, trivial, rfl⟩)) rfl
 intro θ R hd
 obtain ⟨h8d, _⟩ := hd
 exact Opp.plain (OG.imp (OD.move rfl rfl) (by rintro _ _ ⟨rfl, rfl⟩; exact ⟨[], rfl, trivial, rfl⟩)) rfl
 intro θ R hd
 obtain ⟨h9d, _⟩ := hd
 exact Opp.off ⟨[], rfl, trivial, rfl⟩ rfl rfl rfl rfl
 intro θ R hd
 obtain ⟨h9d, h10d, _⟩ := hd
 exact Opp.off ⟨[], rfl, trivial, rfl⟩ rfl rfl rfl rfl
 intro θ R hd
 obtain ⟨h9d, h11d, _⟩ := hd
 exact Opp.off ⟨[], rfl, trivial, rfl⟩ rfl rfl rfl rfl
 intro θ R hd
 obtain ⟨h12d, _⟩ := hd
 exact Opp.offU ⟨[], rfl, trivial, rfl⟩ rfl rfl rfl
 intro θ R hd
 obtain ⟨h12d, _⟩ := hd
 exact Opp.offU ⟨[], rfl, trivial, rfl⟩ rfl rfl rfl
 intro θ R hd
 obtain ⟨h12d, h14d, _⟩ := hd
 exact Opp.offU ⟨[], rfl, trivial, rfl⟩ rfl rfl rfl
 intro θ R hd
 obtain ⟨h12d, h13d, h15d, _⟩ := hd
 exact Opp.offU ⟨[], rfl, trivial, rfl⟩ rfl rfl rfl
 intro θ R hd
 obtain ⟨h12d, h16d, _⟩ := hd
 exact Opp.offU ⟨[], rfl, trivial, rfl⟩ rfl rfl rfl
 intro θ R hd
 obtain ⟨h12d, _⟩ := hd
 exact Opp.offU ⟨[], rfl, trivial, rfl⟩ rfl rfl rfl
 intro θ R hd
 obtain ⟨h12d, _⟩ := hd
 exact Opp.offU ⟨[], rfl, trivial, rfl⟩ rfl rfl rfl
 intro θ R hd
 obtain ⟨h12d, h18d, h19d, _⟩ := hd
 exact Opp.offU ⟨[], rfl, trivial, rfl⟩ rfl rfl rfl
 intro θ R hd
 obtain ⟨h12d, h20d, _⟩ := hd
 exact Opp.offU ⟨[], rfl, trivial, rfl⟩ rfl rfl rfl
 intro θ R hd
 obtain ⟨h12d, h17d, h21d, _⟩ := hd
 exact Opp.offU ⟨[], rfl, trivial, rfl⟩ rfl rfl rfl
 intro θ R hd
 obtain ⟨h9d, h12d, h22d, _⟩ := hd
 exact Opp.off ⟨[], rfl, trivial, rfl⟩ rfl rfl rfl rfl
 intro θ R hd
 obtain ⟨h9d, h23d, _⟩ := hd
 exact Opp.plain (OG.imp (OD.pickT rfl rfl rfl) (by rintro _ _ ⟨rfl, rfl⟩; exact ⟨[], rfl, trivial, rfl⟩)) rfl
 intro θ hall
 obtain ⟨_, _, _, _, _, _, _, _, _, _, _, _, _, _, _, _, _, _, _, _, _, _, _, _, _, _⟩ := hall
 refine G.at [] 0 (env' := [(1, vx), (2, .pointer (some ⟨g1, 0, none⟩)), (4, .pointer (some ⟨g2, 0, none⟩)), (6, .pointer (some ⟨g7, 0, none⟩)), (7, .int .i64 ((i : Int))), (53, .bool true)]) ⟨rfl, rfl, rfl, rfl, rfl, rfl, trivial⟩ (own' := box g7 24 [.int .i64 ((x.length : Nat)), v5] :: ints 3 v5 [] :: box g2 24 [.int .i64 (0), .slice none 0 0] :: box g1 24 [.int .i64 (cr), vcd] :: own) rfl ?_
 show G _ _ _ [] _ _ _ _
 refine G.nil (GE.then_ (GC.condT rfl (GC.seq (GC.region ?_))))
 refine G.stepD (OD.build (idx := []) (xs := []) (vs := []) (cs := []) (zs := [.int .i64 (0), .slice none 0 0]) (r := [.int .i64 (0), .slice none 0 0]) rfl ti24 rfl rfl rfl trivial rfl) rfl rfl rfl ?_
 refine G.stepD0 (OD.store rfl ti24 rfl rfl (us := [.int .i64 (0), .slice none 0 0]) rfl rfl rfl (i := 2) rfl rfl) rfl rfl ?_
 refine G.stepD (OD.assign rfl rfl) rfl rfl rfl ?_
 refine G.nil (GE.then_ (GC.ret (GE.blockR (GE.passR (GE.passR (GE.blockR (GE.passR ?_)))))))
 refine GE.nilInts 3 ?_
 exact GE.body [0] 4 (resN rfl (RVs.cons (rv_cells ti24 rfl (i := 3) rfl rfl) (RVs.cons (rv_tmp rfl) RVs.nil)) rfl) rfl (⟨(.slice none 0 0), congr (congrArg (fun (a0 : Int) (a2 : Bool) => (.tuple #[.agg #[.int .i64 (a0), (.slice none 0 0)], .bool (a2)] : Value)) (((sub_no (by rw [subOk, any_hit (by omega) (sb_bad1 hg9)]; simp)).1 : (0 : Int) = subRk cr cd x))) (((sub_no (by rw [subOk, any_hit (by omega) (sb_bad1 hg9)]; simp)).2.2 : (false : Bool) = subOk cr cd x)), IsS.nil, congrArg (fun (l0 : List Int) => ints 3 (.slice none 0 0) l0 :: own) (((sub_no (by rw [subOk, any_hit (by omega) (sb_bad1 hg9)]; simp)).2.1 : [] = subDt cr cd x))⟩)
 have hg9p := hg9
 replace hg9p := eq_true_of_not hg9p
 rcases Bool.eq_false_or_eq_true (decide (0 < (i : Int))) with hg10 | hg10
 have hg10p := hg10
 replace hg10p := of_decide_eq_true hg10p
 refine GC.at [] 0 (env' := [(1, vx), (2, .pointer (some ⟨g1, 0, none⟩)), (4, .pointer (some ⟨g2, 0, none⟩)), (6, .pointer (some ⟨g7, 0, none⟩)), (7, .int .i64 ((i : Int)))]) ⟨rfl, rfl, rfl, rfl, rfl, trivial⟩ rfl ?_
 refine GC.par (its := [⟨29, [], [], [], [], fun _ => vx, fun _ => True, fun _ => []⟩,
     ⟨30, [], [], [], [], fun _ => .int .i64 ((i : Int)), fun _ => True, fun _ => []⟩,
     ⟨31, [(0, 29), (1, 30)], [], [], [], fun _ => elemPtr vx 1 (i), fun _ => True, fun _ => []⟩,
     ⟨32, [(2, 31)], [], [], [], fun _ => .int .i64 (x.getD (i) 0), fun _ => True, fun _ => []⟩,
     ⟨33, [], [], [], [], fun _ => .pointer (some ⟨g1, 0, none⟩), fun _ => True, fun _ => []⟩,
     ⟨34, [(4, 33)], [], [], [], fun _ => .int .i64 (cr), fun _ => True, fun _ => []⟩,
     ⟨35, [(5, 34)], [], [], [], fun _ => .int .i64 (cr - 1), fun _ => True, fun _ => []⟩,
     ⟨36, [(3, 32), (6, 35)], [], [], [], fun _ => .bool (inB (x.getD (i) 0) 0 (cr - 1)), fun _ => True, fun _ => []⟩,
     ⟨37, [(7, 36)], [], [], [], fun _ => .bool false, fun _ => True, fun _ => []⟩,
     ⟨38, [(8, 37)], [], [], [], fun _ => .bool false, fun _ => True, fun _ => []⟩,
     ⟨39, [(9, 38)], [], [], [], fun _ => .int .i64 ((i : Int)), fun _ => True, fun _ => []⟩,
     ⟨40, [(9, 38), (10, 39)], [], [], [], fun _ => .bool true, fun _ => True, fun _ => []⟩,
     ⟨41, [(9, 38), (11, 40)], [], [], [], fun _ => .bool true, fun _ => True, fun _ => []⟩,
     ⟨42, [(12, 41)], [], [], [], fun _ => vx, fun _ => True, fun _ => []⟩,
     ⟨43, [(12, 41)], [], [], [], fun _ => .int .i64 ((i : Int)), fun _ => True, fun _ => []⟩,
     ⟨44, [(12, 41), (14, 43)], [], [], [], fun _ => .int .i64 ((i : Int) - 1), fun _ => True, fun _ => []⟩,
     ⟨45, [(12, 41), (13, 42), (15, 44)], [], [], [], fun _ => elemPtr vx 1 (((i : Int) - 1 : Int).toNat), fun _ => True, fun _ => []⟩,
     ⟨46, [(12, 41), (16, 45)], [], [], [], fun _ => .int .i64 (x.getD (((i : Int) - 1 : Int).toNat) 0), fun _ => True, fun _ => []⟩,
     ⟨47, [(12, 41)], [], [], [], fun _ => vx, fun _ => True, fun _ => []⟩,
     ⟨48, [(12, 41)], [], [], [], fun _ => .int .i64 ((i : Int)), fun _ => True, fun _ => []⟩,
     ⟨49, [(12, 41), (18, 47), (19, 48)], [], [], [], fun _ => elemPtr vx 1 (i), fun _ => True, fun _ => []⟩,
     ⟨50, [(12, 41), (20, 49)], [], [], [], fun _ => .int .i64 (x.getD (i) 0), fun _ => True, fun _ => []⟩,
     ⟨51, [(12, 41), (17, 46), (21, 50)], [], [], [], fun _ => .bool (decide (x.getD (i) 0 ≤ x.getD (((i : Int) - 1 : Int).toNat) 0)), fun _ => True, fun _ => []⟩,
     ⟨52, [(9, 38), (12, 41), (22, 51)], [], [], [], fun _ => .bool (decide (x.getD (i) 0 ≤ x.getD (((i : Int) - 1 : Int).toNat) 0)), fun _ => True, fun _ => []⟩,
     ⟨53, [(9, 38), (23, 52)], [], [], [], fun _ => .bool (decide (x.getD (i) 0 ≤ x.getD (((i : Int) - 1 : Int).toNat) 0)), fun _ => True, fun _ => []⟩]) (by kernel_rfl) (by kernel_rfl) (POps.cons ?_ (POps.cons ?_ (POps.cons ?_ (POps.cons ?_ (POps.cons ?_ (POps.cons ?_ (POps.cons ?_ (POps.cons ?_ (POps.cons ?_ (POps.cons ?_ (POps.cons ?_ (POps.cons ?_ (POps.cons ?_ (POps.cons ?_ (POps.cons ?_ (POps.cons ?_ (POps.cons ?_ (POps.cons ?_ (POps.cons ?_ (POps.cons ?_ (POps.cons ?_ (POps.cons ?_ (POps.cons ?_ (POps.cons ?_ (POps.cons ?_ POps.nil))))))))))))))))))))))))) ?_
 intro θ R hd
 exact Opp.plain (OG.imp (OD.move rfl rfl) (by rintro _ _ ⟨rfl, rfl⟩; exact ⟨[], rfl, trivial, rfl⟩)) rfl
 intro θ R hd
 exact Opp.plain (OG.imp (OD.move rfl rfl) (by rintro _ _ ⟨rfl, rfl⟩; exact ⟨[], rfl, trivial, rfl⟩)) rfl
 intro θ R hd
 obtain ⟨h0d, h1d, _⟩ := hd
 exact Opp.plain (OG.imp (OD.indexAddr rfl et22 rfl (Ent.drop 4 ex.app) rfl (by omega)) (by rintro _ _ ⟨rfl, rfl⟩; exact ⟨[], rfl, trivial, rfl⟩)) rfl
 intro θ R hd
 obtain ⟨h2d, _⟩ := hd
 exact Opp.plain (OG.imp (OD.loadInt rfl ti3 rfl (Ent.drop 4 ex.app) (by omega)) (by rintro _ _ ⟨rfl, rfl⟩; exact ⟨[], rfl, trivial, rfl⟩)) rfl
 intro θ R hd
 exact Opp.plain (OG.imp (OD.fieldAddr rfl rfl fa24_0) (by rintro _ _ ⟨rfl, rfl⟩; exact ⟨[], rfl, trivial, rfl⟩)) rfl
 intro θ R hd
 obtain ⟨h4d, _⟩ := hd
 exact Opp.plain (OG.imp (OD.load rfl ti3 rfl (i := 3) rfl rfl) (by rintro _ _ ⟨rfl, rfl⟩; exact ⟨[], rfl, trivial, rfl⟩)) rfl
 intro θ R hd
 obtain ⟨h5d, _⟩ := hd
 exact Opp.plain (OG.imp (OD.subI rfl rfl rfl (by omega)) (by rintro _ _ ⟨rfl, rfl⟩; exact ⟨[], rfl, trivial, rfl⟩)) rfl
 intro θ R hd
 obtain ⟨h3d, h6d, _⟩ := hd
 exact Opp.plain (OG.imp (OG.call [.int .i64 (x.getD (i) 0), .int .i64 (0), .int .i64 (cr - 1)] ent68 rfl rfl rfl rfl (by exact l1In_w)) (by rintro _ _ ⟨rfl, rfl⟩; exact ⟨[], rfl, trivial, rfl⟩)) rfl
 intro θ R hd
 obtain ⟨h7d, _⟩ := hd
 exact Opp.plain (OG.imp (OD.not rfl rfl) (by rintro _ _ ⟨rfl, rfl⟩; exact ⟨[], congrArg Value.bool hg9, trivial, rfl⟩)) rfl
 intro θ R hd
 obtain ⟨h8d, _⟩ := hd
 exact Opp.plain (OG.imp (OD.move rfl rfl) (by rintro _ _ ⟨rfl, rfl⟩; exact ⟨[], rfl, trivial, rfl⟩)) rfl
 intro θ R hd
 obtain ⟨h9d, _⟩ := hd
 exact Opp.on (OG.imp (OD.move rfl rfl) (by rintro _ _ ⟨rfl, rfl⟩; exact ⟨[], rfl, trivial, rfl⟩)) rfl rfl rfl
 intro θ R hd
 obtain ⟨h9d, h10d, _⟩ := hd
 exact Opp.on (OG.imp (OD.gtr rfl rfl rfl) (by rintro _ _ ⟨rfl, rfl⟩; exact ⟨[], congrArg Value.bool hg10, trivial, rfl⟩)) rfl rfl rfl
 intro θ R hd
 obtain ⟨h9d, h11d, _⟩ := hd
 exact Opp.on (OG.imp (OD.move rfl rfl) (by rintro _ _ ⟨rfl, rfl⟩; exact ⟨[], rfl, trivial, rfl⟩)) rfl rfl rfl
 intro θ R hd
 obtain ⟨h12d, _⟩ := hd
 exact Opp.on (OG.imp (OD.move rfl rfl) (by rintro _ _ ⟨rfl, rfl⟩; exact ⟨[], rfl, trivial, rfl⟩)) rfl rfl rfl
 intro θ R hd
 obtain ⟨h12d, _⟩ := hd
 exact Opp.on (OG.imp (OD.move rfl rfl) (by rintro _ _ ⟨rfl, rfl⟩; exact ⟨[], rfl, trivial, rfl⟩)) rfl rfl rfl
 intro θ R hd
 obtain ⟨h12d, h14d, _⟩ := hd
 exact Opp.on (OG.imp (OD.subI rfl rfl rfl (by omega)) (by rintro _ _ ⟨rfl, rfl⟩; exact ⟨[], rfl, trivial, rfl⟩)) rfl rfl rfl
 intro θ R hd
 obtain ⟨h12d, h13d, h15d, _⟩ := hd
 exact Opp.on (OG.imp (OD.indexAddr rfl et22 rfl (Ent.drop 4 ex.app) rfl (by omega)) (by rintro _ _ ⟨rfl, rfl⟩; exact ⟨[], rfl, trivial, rfl⟩)) rfl rfl rfl
 intro θ R hd
 obtain ⟨h12d, h16d, _⟩ := hd
 exact Opp.on (OG.imp (OD.loadInt rfl ti3 rfl (Ent.drop 4 ex.app) (by omega)) (by rintro _ _ ⟨rfl, rfl⟩; exact ⟨[], rfl, trivial, rfl⟩)) rfl rfl rfl
 intro θ R hd
 obtain ⟨h12d, _⟩ := hd
 exact Opp.on (OG.imp (OD.move rfl rfl) (by rintro _ _ ⟨rfl, rfl⟩; exact ⟨[], rfl, trivial, rfl⟩)) rfl rfl rfl
 intro θ R hd
 obtain ⟨h12d, _⟩ := hd
 exact Opp.on (OG.imp (OD.move rfl rfl) (by rintro _ _ ⟨rfl, rfl⟩; exact ⟨[], rfl, trivial, rfl⟩)) rfl rfl rfl
 intro θ R hd
 obtain ⟨h12d, h18d, h19d, _⟩ := hd
 exact Opp.on (OG.imp (OD.indexAddr rfl et22 rfl (Ent.drop 4 ex.app) rfl (by omega)) (by rintro _ _ ⟨rfl, rfl⟩; exact ⟨[], rfl, trivial, rfl⟩)) rfl rfl rfl
 intro θ R hd
 obtain ⟨h12d, h20d, _⟩ := hd
 exact Opp.on (OG.imp (OD.loadInt rfl ti3 rfl (Ent.drop 4 ex.app) (by omega)) (by rintro _ _ ⟨rfl, rfl⟩; exact ⟨[], rfl, trivial, rfl⟩)) rfl rfl rfl
 intro θ R hd
 obtain ⟨h12d, h17d, h21d, _⟩ := hd
 exact Opp.on (OG.imp (OD.geq rfl rfl rfl) (by rintro _ _ ⟨rfl, rfl⟩; exact ⟨[], rfl, trivial, rfl⟩)) rfl rfl rfl
 intro θ R hd
 obtain ⟨h9d, h12d, h22d, _⟩ := hd
 exact Opp.on (OG.imp (OD.pickT rfl rfl rfl) (by rintro _ _ ⟨rfl, rfl⟩; exact ⟨[], rfl, trivial, rfl⟩)) rfl rfl rfl
 intro θ R hd
 obtain ⟨h9d, h23d, _⟩ := hd
 exact Opp.plain (OG.imp (OD.pickF rfl rfl rfl) (by rintro _ _ ⟨rfl, rfl⟩; exact ⟨[], rfl, trivial, rfl⟩)) rfl
 intro θ hall
 obtain ⟨_, _, _, _, _, _, _, _, _, _, _, _, _, _, _, _, _, _, _, _, _, _, _, _, _, _⟩ := hall
 refine G.at [] 0 (env' := [(1, vx), (2, .pointer (some ⟨g1, 0, none⟩)), (4, .pointer (some ⟨g2, 0, none⟩)), (6, .pointer (some ⟨g7, 0, none⟩)), (7, .int .i64 ((i : Int))), (53, .bool (decide (x.getD (i) 0 ≤ x.getD (((i : Int) - 1 : Int).toNat) 0)))]) ⟨rfl, rfl, rfl, rfl, rfl, rfl, trivial⟩ (own' := box g7 24 [.int .i64 ((x.length : Nat)), v5] :: ints 3 v5 [] :: box g2 24 [.int .i64 (0), .slice none 0 0] :: box g1 24 [.int .i64 (cr), vcd] :: own) rfl ?_
 show G _ _ _ [] _ _ _ _
 refine G.nil (GE.then_ ?_)
 refine GC.cond rfl (fun hc11 => ?_) (fun hc11 => ?_)
 replace hc11 := of_decide_eq_true hc11
 refine GC.seq (GC.region ?_)
 refine G.stepD (OD.build (idx := []) (xs := []) (vs := []) (cs := []) (zs := [.int .i64 (0), .slice none 0 0]) (r := [.int .i64 (0), .slice none 0 0]) rfl ti24 rfl rfl rfl trivial rfl) rfl rfl rfl ?_
 refine G.stepD0 (OD.store rfl ti24 rfl rfl (us := [.int .i64 (0), .slice none 0 0]) rfl rfl rfl (i := 2) rfl rfl) rfl rfl ?_
 refine G.stepD (OD.assign rfl rfl) rfl rfl rfl ?_
 refine G.nil (GE.then_ (GC.ret (GE.blockR (GE.passR (GE.passR (GE.blockR (GE.passR ?_)))))))
 refine GE.nilInts 3 ?_
 exact GE.body [0] 4 (resN rfl (RVs.cons (rv_cells ti24 rfl (i := 3) rfl rfl) (RVs.cons (rv_tmp rfl) RVs.nil)) rfl) rfl (⟨(.slice none 0 0), congr (congrArg (fun (a0 : Int) (a2 : Bool) => (.tuple #[.agg #[.int .i64 (a0), (.slice none 0 0)], .bool (a2)] : Value)) (((sub_no (by rw [subOk, any_hit (by omega) (sb_bad2 hg10 hc11)]; simp)).1 : (0 : Int) = subRk cr cd x))) (((sub_no (by rw [subOk, any_hit (by omega) (sb_bad2 hg10 hc11)]; simp)).2.2 : (false : Bool) = subOk cr cd x)), IsS.nil, congrArg (fun (l0 : List Int) => ints 3 (.slice none 0 0) l0 :: own) (((sub_no (by rw [subOk, any_hit (by omega) (sb_bad2 hg10 hc11)]; simp)).2.1 : [] = subDt cr cd x))⟩)
 replace hc11 := of_decide_eq_false hc11
 refine GC.skip (GE.blockN (GE.then_ (GC.region ?_)))
 refine G.stepD (OD.move rfl rfl) rfl rfl rfl ?_
 refine G.stepD (OD.addI rfl rfl rfl (by omega)) rfl rfl rfl ?_
 refine G.stepD (OD.assign rfl rfl) rfl rfl rfl ?_
 refine G.nil ?_
 exact GE.again (i + 1) (⟨by omega, any_succ ht (sb_ok2 hg9 hc11)⟩) (by first | omega | (dsimp only; omega)) ⟨rfl, rfl, rfl, rfl, rfl, trivial⟩ [] 0 rfl
 have hg10p := hg10
 replace hg10p := of_decide_eq_false hg10p
 refine GC.at [] 0 (env' := [(1, vx), (2, .pointer (some ⟨g1, 0, none⟩)), (4, .pointer (some ⟨g2, 0, none⟩)), (6, .pointer (some ⟨g7, 0, none⟩)), (7, .int .i64 ((i : Int)))]) ⟨rfl, rfl, rfl, rfl, rfl, trivial⟩ rfl ?_
 refine GC.par (its := [⟨29, [], [], [], [], fun _ => vx, fun _ => True, fun _ => []⟩,
     ⟨30, [], [], [], [], fun _ => .int .i64 ((i : Int)), fun _ => True, fun _ => []⟩,
     ⟨31, [(0, 29), (1, 30)], [], [], [], fun _ => elemPtr vx 1 (i), fun _ => True, fun _ => []⟩,
     ⟨32, [(2, 31)], [], [], [], fun _ => .int .i64 (x.getD (i) 0), fun _ => True, fun _ => []⟩,
     ⟨33, [], [], [], [], fun _ => .pointer (some ⟨g1, 0, none⟩), fun _ => True, fun _ => []⟩,
     ⟨34, [(4, 33)], [], [], [], fun _ => .int .i64 (cr), fun _ => True, fun _ => []⟩,
     ⟨35, [(5, 34)], [], [], [], fun _ => .int .i64 (cr - 1), fun _ => True, fun _ => []⟩,
     ⟨36, [(3, 32), (6, 35)], [], [], [], fun _ => .bool (inB (x.getD (i) 0) 0 (cr - 1)), fun _ => True, fun _ => []⟩,
     ⟨37, [(7, 36)], [], [], [], fun _ => .bool false, fun _ => True, fun _ => []⟩,
     ⟨38, [(8, 37)], [], [], [], fun _ => .bool false, fun _ => True, fun _ => []⟩,
     ⟨39, [(9, 38)], [], [], [], fun _ => .int .i64 ((i : Int)), fun _ => True, fun _ => []⟩,
     ⟨40, [(9, 38), (10, 39)], [], [], [], fun _ => .bool false, fun _ => True, fun _ => []⟩,
     ⟨41, [(9, 38), (11, 40)], [], [], [], fun _ => .bool false, fun _ => True, fun _ => []⟩,
     ⟨42, [(12, 41)], [], [], [], fun _ => undef, fun _ => True, fun _ => []⟩,
     ⟨43, [(12, 41)], [], [], [], fun _ => undef, fun _ => True, fun _ => []⟩,
     ⟨44, [(12, 41), (14, 43)], [], [], [], fun _ => undef, fun _ => True, fun _ => []⟩,
     ⟨45, [(12, 41), (13, 42), (15, 44)], [], [], [], fun _ => undef, fun _ => True, fun _ => []⟩,
     ⟨46, [(12, 41), (16, 45)], [], [], [], fun _ => undef, fun _ => True, fun _ => []⟩,
     ⟨47, [(12, 41)], [], [], [], fun _ => undef, fun _ => True, fun _ => []⟩,
     ⟨48, [(12, 41)], [], [], [], fun _ => undef, fun _ => True, fun _ => []⟩,
     ⟨49, [(12, 41), (18, 47), (19, 48)], [], [], [], fun _ => undef, fun _ => True, fun _ => []⟩,
     ⟨50, [(12, 41), (20, 49)], [], [], [], fun _ => undef, fun _ => True, fun _ => []⟩,
     ⟨51, [(12, 41), (17, 46), (21, 50)], [], [], [], fun _ => undef, fun _ => True, fun _ => []⟩,
     ⟨52, [(9, 38), (12, 41), (22, 51)], [], [], [], fun _ => .bool false, fun _ => True, fun _ => []⟩,
     ⟨53, [(9, 38), (23, 52)], [], [], [], fun _ => .bool false, fun _ => True, fun _ => []⟩]) (by kernel_rfl) (by kernel_rfl) (POps.cons ?_ (POps.cons ?_ (POps.cons ?_ (POps.cons ?_ (POps.cons ?_ (POps.cons ?_ (POps.cons ?_ (POps.cons ?_ (POps.cons ?_ (POps.cons ?_ (POps.cons ?_ (POps.cons ?_ (POps.cons ?_ (POps.cons ?_ (POps.cons ?_ (POps.cons ?_ (POps.cons ?_ (POps.cons ?_ (POps.cons ?_ (POps.cons ?_ (POps.cons ?_ (POps.cons ?_ (POps.cons ?_ (POps.cons ?_ (POps.cons ?_ POps.nil))))))))))))))))))))))))) ?_
 intro θ R hd
 exact Opp.plain (OG.imp (OD.move rfl rfl) (by rintro _ _ ⟨rfl, rfl⟩; exact ⟨[], rfl, trivial, rfl⟩)) rfl
 intro θ R hd
 exact Opp.plain (OG.imp (OD.move rfl rfl) (by rintro _ _ ⟨rfl, rfl⟩; exact ⟨[], rfl, trivial, rfl⟩)) rfl
 intro θ R hd
 obtain ⟨h0d, h1d, _⟩ := hd
 exact Opp.plain (OG.imp (OD.indexAddr rfl et22 rfl (Ent.drop 4 ex.app) rfl (by omega)) (by rintro _ _ ⟨rfl, rfl⟩; exact ⟨[], rfl, trivial, rfl⟩)) rfl
 intro θ R hd
 obtain ⟨h2d, _⟩ := hd
 exact Opp.plain (OG.imp (OD.loadInt rfl ti3 rfl (Ent.drop 4 ex.app) (by omega)) (by rintro _ _ ⟨rfl, rfl⟩; exact ⟨[], rfl, trivial, rfl⟩)) rfl
 intro θ R hd
 exact Opp.plain (OG.imp (OD.fieldAddr rfl rfl fa24_0) (by rintro _ _ ⟨rfl, rfl⟩; exact ⟨[], rfl, trivial, rfl⟩)) rfl
 intro θ R hd
 obtain ⟨h4d, _⟩ := hd
 exact Opp.plain (OG.imp (OD.load rfl ti3 rfl (i := 3) rfl rfl) (by rintro _ _ ⟨rfl, rfl⟩; exact ⟨[], rfl, trivial, rfl⟩)) rfl
 intro θ R hd
 obtain ⟨h5d, _⟩ := hd
 exact Opp.plain (OG.imp (OD.subI rfl rfl rfl (by omega)) (by rintro _ _ ⟨rfl, rfl⟩; exact ⟨[], rfl, trivial, rfl⟩)) rfl
 intro θ R hd
 obtain ⟨h3d, h6d, _⟩ := hd
 exact Opp.plain (OG.imp (OG.call [.int .i64 (x.getD (i) 0), .int .i64 (0), .int .i64 (cr - 1)] ent68 rfl rfl rfl rfl (by exact l1In_w)) (by rintro _ _ ⟨rfl, rfl⟩; exact ⟨[], rfl, trivial, rfl⟩)) rfl
 intro θ R hd
 obtain ⟨h7d, _⟩ := hd
 exact Opp.plain (OG.imp (OD.not rfl rfl) (by rintro _ _ ⟨rfl, rfl⟩; exact ⟨[], congrArg Value.bool hg9, trivial, rfl⟩)) rfl
 intro θ R hd
 obtain ⟨h8d, _⟩ := hd
 exact Opp.plain (OG.imp (OD.move rfl rfl) (by rintro _ _ ⟨rfl, rfl⟩; exact ⟨[], rfl, trivial, rfl⟩)) rfl
 intro θ R hd
 obtain ⟨h9d, _⟩ := hd
 exact Opp.on (OG.imp (OD.move rfl rfl) (by rintro _ _ ⟨rfl, rfl⟩; exact ⟨[], rfl, trivial, rfl⟩)) rfl rfl rfl
 intro θ R hd
 obtain ⟨h9d, h10d, _⟩ := hd
 exact Opp.on (OG.imp (OD.gtr rfl rfl rfl) (by rintro _ _ ⟨rfl, rfl⟩; exact ⟨[], congrArg Value.bool hg10, trivial, rfl⟩)) rfl rfl rfl
 intro θ R hd
 obtain ⟨h9d, h11d, _⟩ := hd
 exact Opp.on (OG.imp (OD.move rfl rfl) (by rintro _ _ ⟨rfl, rfl⟩; exact ⟨[], rfl, trivial, rfl⟩)) rfl rfl rfl
 intro θ R hd
 obtain ⟨h12d, _⟩ := hd
 exact Opp.off ⟨[], rfl, trivial, rfl⟩ rfl rfl rfl rfl
 intro θ R hd
 obtain ⟨h12d, _⟩ := hd
 exact Opp.off ⟨[], rfl, trivial, rfl⟩ rfl rfl rfl rfl
 intro θ R hd
 obtain ⟨h12d, h14d, _⟩ := hd
 exact Opp.off ⟨[], rfl, trivial, rfl⟩ rfl rfl rfl rfl
 intro θ R hd
 obtain ⟨h12d, h13d, h15d, _⟩ := hd
 exact Opp.off ⟨[], rfl, trivial, rfl⟩ rfl rfl rfl rfl
 intro θ R hd
 obtain ⟨h12d, h16d, _⟩ := hd
 exact Opp.off ⟨[], rfl, trivial, rfl⟩ rfl rfl rfl rfl
 intro θ R hd
 obtain ⟨h12d, _⟩ := hd
 exact Opp.off ⟨[], rfl, trivial, rfl⟩ rfl rfl rfl rfl
 intro θ R hd
 obtain ⟨h12d, _⟩ := hd
 exact Opp.off ⟨[], rfl, trivial, rfl⟩ rfl rfl rfl rfl
 intro θ R hd
 obtain ⟨h12d, h18d, h19d, _⟩ := hd
 exact Opp.off ⟨[], rfl, trivial, rfl⟩ rfl rfl rfl rfl
 intro θ R hd
 obtain ⟨h12d, h20d, _⟩ := hd
 exact Opp.off ⟨[], rfl, trivial, rfl⟩ rfl rfl rfl rfl
 intro θ R hd
 obtain ⟨h12d, h17d, h21d, _⟩ := hd
 exact Opp.off ⟨[], rfl, trivial, rfl⟩ rfl rfl rfl rfl
 intro θ R hd
 obtain ⟨h9d, h12d, h22d, _⟩ := hd
 exact Opp.on (OG.imp (OD.pickF rfl rfl rfl) (by rintro _ _ ⟨rfl, rfl⟩; exact ⟨[], rfl, trivial, rfl⟩)) rfl rfl rfl
 intro θ R hd
 obtain ⟨h9d, h23d, _⟩ := hd
 exact Opp.plain (OG.imp (OD.pickF rfl rfl rfl) (by rintro _ _ ⟨rfl, rfl⟩; exact ⟨[], rfl, trivial, rfl⟩)) rfl
 intro θ hall
 obtain ⟨_, _, _, _, _, _, _, _, _, _, _, _, _, _, _, _, _, _, _, _, _, _, _, _, _, _⟩ := hall
 refine G.at [] 0 (env' := [(1, vx), (2, .pointer (some ⟨g1, 0, none⟩)), (4, .pointer (some ⟨g2, 0, none⟩)), (6, .pointer (some ⟨g7, 0, none⟩)), (7, .int .i64 ((i : Int))), (53, .bool false)]) ⟨rfl, rfl, rfl, rfl, rfl, rfl, trivial⟩ (own' := box g7 24 [.int .i64 ((x.length : Nat)), v5] :: ints 3 v5 [] :: box g2 24 [.int .i64 (0), .slice none 0 0] :: box g1 24 [.int .i64 (cr), vcd] :: own) rfl ?_
 show G _ _ _ [] _ _ _ _
 refine G.nil (GE.then_ (GC.condF rfl (GC.skip (GE.blockN (GE.then_ (GC.region ?_))))))
 refine G.stepD (OD.move rfl rfl) rfl rfl rfl ?_
 refine G.stepD (OD.addI rfl rfl rfl (by omega)) rfl rfl rfl ?_
 refine G.stepD (OD.assign rfl rfl) rfl rfl rfl ?_
 refine G.nil ?_
 exact GE.again (i + 1) (⟨by omega, any_succ ht (sb_ok1 hg9 hg10)⟩) (by first | omega | (dsimp only; omega)) ⟨rfl, rfl, rfl, rfl, rfl, trivial⟩ [] 0 rfl
 replace hc8 := of_decide_eq_false hc8
 have hall : (List.range x.length).any (subBad cr x) = false := by rw [show x.length = i by omega]; exact ht
 obtain ⟨hx4, hxr⟩ := sub_rows hall (by omega)
 have hsd := subD_len cr cd x
 refine GC.exit (GE.pass (GE.pass (GE.hit (GE.then_ (GC.seq (GC.seq (GC.region ?_)))))))
 refine G.stepD (OD.assign rfl rfl) rfl rfl rfl ?_
 refine G.nil (GE.then_ (GC.block ?_))
 refine GC.loop (ι := Nat × List Int × Value) (fun ⟨a, ys, v⟩ => [(1, vx), (2, .pointer (some ⟨g1, 0, none⟩)), (4, .pointer (some ⟨g2, 0, none⟩)), (6, .pointer (some ⟨g7, 0, none⟩)), (8, .int .i64 ((a : Int)))]) (fun ⟨a, ys, v⟩ => box g7 24 [.int .i64 ((x.length : Nat)), v] :: ints 3 v ys :: box g2 24 [.int .i64 (0), .slice none 0 0] :: box g1 24 [.int .i64 (cr), vcd] :: own) (fun ⟨a, ys, v⟩ => (a ≤ x.length) ∧ (IsS v) ∧ (ys.length = a * x.length) ∧ (ys = (List.range a).foldl (fun (o : List Int) (i : Nat) => (List.range x.length).foldl (subR cr cd x i) o) [])) (fun ⟨a, ys, v⟩ => x.length - a) (0, [], v5) (⟨by omega, hs6, by simp, rfl⟩) ⟨rfl, rfl, rfl, rfl, rfl, trivial⟩ [] 0 rfl ?_
 rintro ⟨a, ys, v⟩ ⟨ha, hv, hyl, hy⟩
 refine GC.seq (GC.seq (GC.region ?_))
 refine G.stepD (OD.move rfl rfl) rfl rfl rfl ?_
 refine G.stepD (OD.move rfl rfl) rfl rfl rfl ?_
 refine G.stepD (OD.len rfl rfl et22 rfl (Ent.drop 4 ex)) rfl rfl rfl ?_
 refine G.stepD (OD.lss rfl rfl rfl) rfl rfl rfl ?_
 refine G.nil (GE.then_ ?_)
 refine GC.cond rfl (fun hc12 => ?_) (fun hc12 => ?_)
 replace hc12 := of_decide_eq_true hc12
 have hra := hxr a (by omega)
 have hmm : a * x.length ≤ 4 * 4 := Nat.mul_le_mul (by omega) (by omega)
 refine GC.skip (GE.then_ (GC.seq (GC.block (GC.seq (GC.region ?_)))))
 refine G.stepD (OD.assign rfl rfl) rfl rfl rfl ?_
 refine G.nil (GE.then_ (GC.block ?_))
 refine GC.loop (ι := Nat × List Int × Value) (fun ⟨b, zs, u⟩ => [(1, vx), (2, .pointer (some ⟨g1, 0, none⟩)), (4, .pointer (some ⟨g2, 0, none⟩)), (6, .pointer (some ⟨g7, 0, none⟩)), (8, .int .i64 ((a : Int))), (9, .int .i64 ((b : Int)))]) (fun ⟨b, zs, u⟩ => box g7 24 [.int .i64 ((x.length : Nat)), u] :: ints 3 u zs :: box g2 24 [.int .i64 (0), .slice none 0 0] :: box g1 24 [.int .i64 (cr), vcd] :: own) (fun ⟨b, zs, u⟩ => (b ≤ x.length) ∧ (IsS u) ∧ (zs.length = a * x.length + b) ∧ (zs = (List.range b).foldl (subR cr cd x a) ys)) (fun ⟨b, zs, u⟩ => x.length - b) (0, ys, v) (⟨by omega, hv, by omega, rfl⟩) ⟨rfl, rfl, rfl, rfl, rfl, rfl, trivial⟩ [] 0 rfl ?_
 rintro ⟨b, zs, u⟩ ⟨hb, hu, hzl, hz⟩
 refine GC.seq (GC.seq (GC.region ?_))
 refine G.stepD (OD.move rfl rfl) rfl rfl rfl ?_
 refine G.stepD (OD.move rfl rfl) rfl rfl rfl ?_
 refine G.stepD (OD.len rfl rfl et22 rfl (Ent.drop 4 ex)) rfl rfl rfl ?_
 refine G.stepD (OD.lss rfl rfl rfl) rfl rfl rfl ?_
 refine G.nil (GE.then_ ?_)
 refine GC.cond rfl (fun hc13 => ?_) (fun hc13 => ?_)
 replace hc13 := of_decide_eq_true hc13
 have hrb := hxr b (by omega)
 have hxx := idx_bd (n := cr) (i := x.getD a 0) (j := x.getD b 0) ⟨by omega, by omega⟩ ⟨by omega, by omega⟩ (by omega)
 refine GC.skip (GE.then_ (GC.seq (GC.block ?_)))
 refine GC.at [] 0 (env' := [(1, vx), (2, .pointer (some ⟨g1, 0, none⟩)), (4, .pointer (some ⟨g2, 0, none⟩)), (6, .pointer (some ⟨g7, 0, none⟩)), (8, .int .i64 ((a : Int))), (9, .int .i64 ((b : Int)))]) ⟨rfl, rfl, rfl, rfl, rfl, rfl, trivial⟩ rfl ?_
 refine GC.par (its := [⟨67, [], [], [], [], fun _ => .pointer (some ⟨g7, 1, none⟩), fun _ => True, fun _ => []⟩,
     ⟨68, [(0, 67)], [], [], [], fun _ => u, fun _ => True, fun _ => []⟩,
     ⟨69, [], [], [], [], fun _ => .agg #[.int .i64 (cr), vcd], fun _ => True, fun _ => []⟩,
     ⟨70, [], [], [], [], fun _ => vx, fun _ => True, fun _ => []⟩,
     ⟨71, [], [], [], [], fun _ => .int .i64 ((a : Int)), fun _ => True, fun _ => []⟩,
     ⟨72, [(3, 70), (4, 71)], [], [], [], fun _ => elemPtr vx 1 (a), fun _ => True, fun _ => []⟩,
     ⟨73, [(5, 72)], [], [], [], fun _ => .int .i64 (x.getD (a) 0), fun _ => True, fun _ => []⟩,
     ⟨74, [], [], [], [], fun _ => vx, fun _ => True, fun _ => []⟩,
     ⟨75, [], [], [], [], fun _ => .int .i64 ((b : Int)), fun _ => True, fun _ => []⟩,
     ⟨76, [(7, 74), (8, 75)], [], [], [], fun _ => elemPtr vx 1 (b), fun _ => True, fun _ => []⟩,
     ⟨77, [(9, 76)], [], [], [], fun _ => .int .i64 (x.getD (b) 0), fun _ => True, fun _ => []⟩,
     ⟨78, [(2, 69), (6, 73), (10, 77)], [], [], [], fun _ => .int .i64 (atI cr cd (x.getD (a) 0) (x.getD (b) 0)), fun _ => True, fun _ => []⟩,
     ⟨79, [(11, 78)], [], [], [12], fun ds => ((ds.getD 0 []).getD 0 undef), fun ds => IsS ((ds.getD 0 []).getD 0 undef), fun ds => [ints 3 ((ds.getD 0 []).getD 0 undef) [atI cr cd (x.getD (a) 0) (x.getD (b) 0)]]⟩]) (by kernel_rfl) (by kernel_rfl) (POps.cons ?_ (POps.cons ?_ (POps.cons ?_ (POps.cons ?_ (POps.cons ?_ (POps.cons ?_ (POps.cons ?_ (POps.cons ?_ (POps.cons ?_ (POps.cons ?_ (POps.cons ?_ (POps.cons ?_ (POps.cons ?_ POps.nil))))))))))))) ?_
 intro θ R hd
 exact Opp.plain (OG.imp (OD.fieldAddr rfl rfl fa24_1) (by rintro _ _ ⟨rfl, rfl⟩; exact ⟨[], rfl, trivial, rfl⟩)) rfl
 intro θ R hd
 obtain ⟨h0d, _⟩ := hd
 exact Opp.plain (OG.imp (OD.load rfl ti22 rfl (i := 0) rfl rfl) (by rintro _ _ ⟨rfl, rfl⟩; exact ⟨[], rfl, trivial, rfl⟩)) rfl
 intro θ R hd
 exact Opp.plain (OG.imp (OD.loadAgg rfl ti24 rfl (i := 3) rfl (us := [.int .i64 (cr), vcd]) rfl rfl) (by rintro _ _ ⟨rfl, rfl⟩; exact ⟨[], rfl, trivial, rfl⟩)) rfl
 intro θ R hd
 exact Opp.plain (OG.imp (OD.move rfl rfl) (by rintro _ _ ⟨rfl, rfl⟩; exact ⟨[], rfl, trivial, rfl⟩)) rfl
 intro θ R hd
 exact Opp.plain (OG.imp (OD.move rfl rfl) (by rintro _ _ ⟨rfl, rfl⟩; exact ⟨[], rfl, trivial, rfl⟩)) rfl
 intro θ R hd
 obtain ⟨h3d, h4d, _⟩ := hd
 exact Opp.plain (OG.imp (OD.indexAddr rfl et22 rfl (Ent.drop 4 ex.app) rfl (by omega)) (by rintro _ _ ⟨rfl, rfl⟩; exact ⟨[], rfl, trivial, rfl⟩)) rfl
 intro θ R hd
 obtain ⟨h5d, _⟩ := hd
 exact Opp.plain (OG.imp (OD.loadInt rfl ti3 rfl (Ent.drop 4 ex.app) (by omega)) (by rintro _ _ ⟨rfl, rfl⟩; exact ⟨[], rfl, trivial, rfl⟩)) rfl
 intro θ R hd
 exact Opp.plain (OG.imp (OD.move rfl rfl) (by rintro _ _ ⟨rfl, rfl⟩; exact ⟨[], rfl, trivial, rfl⟩)) rfl
 intro θ R hd
 exact Opp.plain (OG.imp (OD.move rfl rfl) (by rintro _ _ ⟨rfl, rfl⟩; exact ⟨[], rfl, trivial, rfl⟩)) rfl
 intro θ R hd
 obtain ⟨h7d, h8d, _⟩ := hd
 exact Opp.plain (OG.imp (OD.indexAddr rfl et22 rfl (Ent.drop 4 ex.app) rfl (by omega)) (by rintro _ _ ⟨rfl, rfl⟩; exact ⟨[], rfl, trivial, rfl⟩)) rfl
 intro θ R hd
 obtain ⟨h9d, _⟩ := hd
 exact Opp.plain (OG.imp (OD.loadInt rfl ti3 rfl (Ent.drop 4 ex.app) (by omega)) (by rintro _ _ ⟨rfl, rfl⟩; exact ⟨[], rfl, trivial, rfl⟩)) rfl
 intro θ R hd
 obtain ⟨h2d, h6d, h10d, _⟩ := hd
 exact Opp.plain (OG.imp (OG.call [.agg #[.int .i64 (cr), vcd], .int .i64 (x.getD (a) 0), .int .i64 (x.getD (b) 0)] ent69 rfl rfl rfl rfl (by exact (l5At_w scd (Ent.drop 4 ecd.app) (by omega)))) (by rintro _ _ ⟨rfl, rfl⟩; exact ⟨[], rfl, trivial, rfl⟩)) rfl
 intro θ R hd
 obtain ⟨h11d, _⟩ := hd
 exact Opp.plain (OG.imp (OG.buildInts (xs := [.tmp 78]) (is := [atI cr cd (x.getD (a) 0) (x.getD (b) 0)]) rfl et22 rfl rfl rfl rfl rfl) (by rintro v16 _ ⟨hs17, rfl⟩; exact ⟨[v16], rfl, hs17, rfl⟩)) rfl
 intro θ hall
 obtain ⟨_, _, _, _, _, _, _, _, _, _, _, _, h12a, _⟩ := hall
 refine G.at [] 0 (env' := [(1, vx), (2, .pointer (some ⟨g1, 0, none⟩)), (4, .pointer (some ⟨g2, 0, none⟩)), (6, .pointer (some ⟨g7, 0, none⟩)), (8, .int .i64 ((a : Int))), (9, .int .i64 ((b : Int))), (68, u), (79, ((θ 12).getD 0 undef))]) ⟨rfl, rfl, rfl, rfl, rfl, rfl, rfl, rfl, trivial⟩ (own' := ints 3 ((θ 12).getD 0 undef) [atI cr cd (x.getD (a) 0) (x.getD (b) 0)] :: box g7 24 [.int .i64 ((x.length : Nat)), u] :: ints 3 u zs :: box g2 24 [.int .i64 (0), .slice none 0 0] :: box g1 24 [.int .i64 (cr), vcd] :: own) rfl ?_
 have hs18 : IsS ((θ 12).getD 0 undef) := h12a
 clear h12a
 generalize ((θ 12).getD 0 undef) = v19 at *
 show G _ _ _ [_, _, _] _ _ _ _
 refine G.step (OG.appendInts 2 rfl rfl et22 rfl rfl rfl (Ent.ints (i := 0) rfl) (by first | omega | (simp; omega))) rfl rfl rfl ?_
 rintro v20 _ ⟨hs21, rfl⟩
 refine G.stepD (OD.fieldAddr rfl rfl fa24_1) rfl rfl rfl ?_
 refine G.stepD0 (OD.store rfl ti22 rfl rfl (us := [v20]) (one_cells (IsS.one hs21)) rfl (allC (IsS.one hs21) rfl) (i := 1) rfl rfl) rfl rfl ?_
 refine G.nil (GE.blockN (GE.then_ (GC.region ?_)))
 refine G.stepD (OD.move rfl rfl) rfl rfl rfl ?_
 refine G.stepD (OD.addI rfl rfl rfl (by omega)) rfl rfl rfl ?_
 refine G.stepD (OD.assign rfl rfl) rfl rfl rfl ?_
 refine G.nil ?_
 exact GE.again (b + 1, zs ++ [atI cr cd (x.getD (a) 0) (x.getD (b) 0)], v20) (⟨by omega, hs21, by rw [List.length_append, List.length_singleton]; omega, fold_next hz rfl⟩) (by first | omega | (dsimp only; omega)) ⟨rfl, rfl, rfl, rfl, rfl, rfl, trivial⟩ [1, 1, 1, 1] 1 rfl
 replace hc13 := of_decide_eq_false hc13
 refine GC.exit (GE.pass (GE.pass (GE.hit (GE.blockN (GE.then_ (GC.region ?_))))))
 refine G.stepD (OD.move rfl rfl) rfl rfl rfl ?_
 refine G.stepD (OD.addI rfl rfl rfl (by omega)) rfl rfl rfl ?_
 refine G.stepD (OD.assign rfl rfl) rfl rfl rfl ?_
 refine G.nil ?_
 exact GE.again (a + 1, zs, u) (⟨by omega, hu, by rw [hzl, Nat.succ_mul]; omega, fold_next hy (by rw [hz, show b = x.length by omega])⟩) (by first | omega | (dsimp only; omega)) ⟨rfl, rfl, rfl, rfl, rfl, trivial⟩ [] 0 rfl
 replace hc12 := of_decide_eq_false hc12
 refine GC.exit (GE.pass (GE.pass (GE.hit (GE.then_ (GC.seq (GC.region ?_))))))
 refine G.stepD (OD.loadAgg rfl ti24 rfl (i := 0) rfl (us := [.int .i64 ((x.length : Nat)), v]) rfl rfl) rfl rfl rfl ?_
 refine G.stepD0 (OD.store rfl ti24 rfl rfl (us := [.int .i64 ((x.length : Nat)), v]) rfl rfl (allC rfl (allC (IsS.one hv) rfl)) (i := 2) rfl rfl) rfl rfl ?_
 refine G.stepD (OD.assign rfl rfl) rfl rfl rfl ?_
 refine G.nil (GE.then_ (GC.ret ?_))
 exact GE.body [1] 3 (resN rfl (RVs.cons (rv_cells ti24 rfl (i := 2) rfl rfl) (RVs.cons (rv_tmp rfl) RVs.nil)) rfl) rfl (⟨v, congr (congrArg (fun (a0 : Int) (a2 : Bool) => (.tuple #[.agg #[.int .i64 (a0), v], .bool (a2)] : Value)) (((sub_yes (by rw [subOk, hg3, hall]; simp only [Bool.true_and, Bool.not_false, Bool.and_true, Bool.not_eq_true', beq_eq_false_iff_ne, ne_eq]; omega)).1 : ((x.length : Nat) : Int) = subRk cr cd x))) (((sub_yes (by rw [subOk, hg3, hall]; simp only [Bool.true_and, Bool.not_false, Bool.and_true, Bool.not_eq_true', beq_eq_false_iff_ne, ne_eq]; omega)).2.2 : (true : Bool) = subOk cr cd x)), hv, congrArg (fun (l0 : List Int) => ints 3 v l0 :: own) ((by rw [hy, show a = x.length by omega]; exact (sub_yes (by rw [subOk, hg3, hall]; simp only [Bool.true_and, Bool.not_false, Bool.and_true, Bool.not_eq_true', beq_eq_false_iff_ne, ne_eq]; omega)).2.1 : ys = subDt cr cd x))⟩)

set_option maxHeartbeats 4000000 in
set_option maxRecDepth 100000 in
theorem lawLengthsOf {W : World} {own : List Asn} {cr : Int} {vcd : Value} {cd : List Int}  (scd : IsS vcd) (ecd : Ent own fun w => Ints w vcd cd)  (hcd : cd.length ≤ 9223372036854775807) (hg : Ent own fun w => ∃ m, w.cell? ⟨Tryd.l146_ren.g 1, 0, none⟩ = some (.int .i64 m)) : Spec Tryd.prog 9 [.agg #[.int .i64 (cr), vcd]] W own (fun v ow => v = .bool (true) ∧ ow = own) := by
 have hrl := lenOf_len cr cd
 refine Spec.enter Tryd.f9 _ Tryd.func9 rfl (n := 69) rfl rfl ?_
 refine GC.seq (GC.region ?_)
 refine G.step (OG.box (cs := [.int .i64 (cr), vcd]) rfl rfl rfl) rfl rfl rfl ?_
 rintro _ _ ⟨g1, rfl, rfl⟩
 refine G.stepD (OD.assign rfl rfl) rfl rfl rfl ?_
 refine G.nil (GE.then_ (GC.seq (GC.region ?_)))
 refine G.stepD (OD.assign rfl rfl) rfl rfl rfl ?_
 refine G.nil (GE.then_ (GC.seq (GC.region ?_)))
 refine G.stepD (OD.loadAgg rfl ti30 rfl (i := 0) rfl (us := [.int .i64 (cr), vcd]) rfl rfl) rfl rfl rfl ?_
 refine G.stepD (OD.move rfl rfl) rfl rfl rfl ?_
 refine G.step (OG.call [.agg #[.int .i64 (cr), vcd], .int .i64 (1048576)] ent20 rfl rfl rfl rfl (by exact (szCartan_s scd (Ent.drop 1 ecd) (by omega) (by omega)))) rfl rfl rfl ?_
 rintro _ _ ⟨rfl, rfl⟩
 refine G.stepD (OD.assign rfl rfl) rfl rfl rfl ?_
 refine G.nil (GE.then_ (GC.seq (GC.seq (GC.region ?_))))
 refine G.stepD (OD.move rfl rfl) rfl rfl rfl ?_
 refine G.stepD (OD.lss rfl rfl rfl) rfl rfl rfl ?_
 refine G.nil (GE.then_ ?_)
 refine GC.cond rfl (fun hc2 => ?_) (fun hc2 => ?_)
 replace hc2 := of_decide_eq_true hc2
 refine GC.seq (GC.region ?_)
 refine G.stepD (OD.assign rfl rfl) rfl rfl rfl ?_
 refine G.nil (GE.then_ (GC.ret (GE.passR ?_)))
 exact GE.body [] 1 (res1 rfl rfl) rfl (⟨rfl, rfl⟩)
 replace hc2 := of_decide_eq_false hc2
 have hc2z := szG_ok hc2
 refine GC.skip (GE.then_ (GC.seq (GC.region ?_)))
 refine G.stepD (OD.loadAgg rfl ti30 rfl (i := 0) rfl (us := [.int .i64 (cr), vcd]) rfl rfl) rfl rfl rfl ?_
 refine G.step (OG.call [.agg #[.int .i64 (cr), vcd]] ent22 rfl rfl rfl rfl (by exact (toCartan_s scd (Ent.drop 1 ecd) (by omega)))) rfl rfl rfl ?_
 rintro _ _ ⟨v3, rfl, hs4, rfl⟩
 refine G.step (OG.call [.agg #[.int .i64 (cr), v3]] ent36 rfl rfl rfl rfl (by exact (specLengthsOf_w hs4 (Ent.ints (i := 0) rfl) (by omega)))) rfl rfl rfl ?_
 rintro v5 _ ⟨_, rfl, hs6, rfl⟩
 refine G.stepD (OD.assign rfl rfl) rfl rfl rfl ?_
 refine G.nil (GE.then_ (GC.seq (GC.region ?_)))
 refine G.stepD (OD.loadAgg rfl ti30 rfl (i := 2) rfl (us := [.int .i64 (cr), vcd]) rfl rfl) rfl rfl rfl ?_
 refine G.step (OG.call [.agg #[.int .i64 (cr), vcd]] ent22 rfl rfl rfl rfl (by exact (toCartan_s scd (Ent.drop 3 ecd) (by omega)))) rfl rfl rfl ?_
 rintro _ _ ⟨v7, rfl, hs8, rfl⟩
 refine G.step (OG.alloc rfl ti24 (zs := [.int .i64 (0), .slice none 0 0]) rfl) rfl rfl rfl ?_
 rintro _ _ ⟨g9, rfl, rfl⟩
 refine G.stepD0 (OD.store rfl ti24 rfl rfl (us := [.int .i64 (cr), v7]) rfl rfl (allC rfl (allC (IsS.one hs8) rfl)) (i := 0) rfl rfl) rfl rfl ?_
 refine G.nil (GE.then_ (GC.seq (GC.region ?_)))
 refine G.stepD (OD.loadAgg rfl ti24 rfl (i := 0) rfl (us := [.int .i64 (cr), v7]) rfl rfl) rfl rfl rfl ?_
 refine G.step (OG.call [.agg #[.int .i64 (cr), v7]] ent37 rfl rfl rfl rfl (by exact (lengthsOf_w hs8 (Ent.ints (i := 1) rfl) (by omega) ((Ent.drop 5 hg))))) rfl rfl rfl ?_
 rintro v10 _ ⟨_, rfl, hs11, rfl⟩
 refine G.stepD (OD.assign rfl rfl) rfl rfl rfl ?_
 refine G.nil (GE.then_ (GC.seq (GC.seq (GC.region ?_))))
 refine G.stepD (OD.move rfl rfl) rfl rfl rfl ?_
 refine G.stepD (OD.move rfl rfl) rfl rfl rfl ?_
 refine G.step (OG.call [v10, v5] ent29 rfl rfl rfl rfl (by exact (eqIntS_same hs11 (Ent.ints (i := 0) rfl) hs6 (Ent.ints (i := 3) rfl) (by omega)))) rfl rfl rfl ?_
 rintro _ _ ⟨rfl, rfl⟩
 refine G.stepD (OD.not rfl rfl) rfl rfl rfl ?_
 refine G.nil (GE.then_ (GC.condF rfl (GC.skip (GE.then_ (GC.seq (GC.seq ?_))))))
 refine GC.at [] 0 (env' := [(1, .pointer (some ⟨g1, 0, none⟩)), (4, v5), (5, .pointer (some ⟨g9, 0, none⟩)), (6, v10)]) ⟨rfl, rfl, rfl, rfl, trivial⟩ rfl ?_
 refine GC.par (its := [⟨27, [], [], [], [], fun _ => .agg #[.int .i64 (cr), v7], fun _ => True, fun _ => []⟩,
     ⟨28, [], [], [], [], fun _ => .agg #[.int .i64 (cr), vcd], fun _ => True, fun _ => []⟩,
     ⟨29, [(1, 28)], [], [], [2], fun ds => .agg #[.int .i64 (cr), ((ds.getD 0 []).getD 0 undef)], fun ds => IsS ((ds.getD 0 []).getD 0 undef), fun ds => [ints 3 ((ds.getD 0 []).getD 0 undef) cd]⟩,
     ⟨30, [(0, 27), (2, 29)], [2], [], [2], fun _ => .bool true, fun _ => True, fun _ => []⟩,
     ⟨31, [(3, 30)], [2], [], [2], fun _ => .bool false, fun _ => True, fun _ => []⟩]) (by kernel_rfl) (by kernel_rfl) (POps.cons ?_ (POps.cons ?_ (POps.cons ?_ (POps.cons ?_ (POps.cons ?_ POps.nil))))) ?_
 intro θ R hd
 exact Opp.plain (OG.imp (OD.loadAgg rfl ti24 rfl (i := 1) rfl (us := [.int .i64 (cr), v7]) rfl rfl) (by rintro _ _ ⟨rfl, rfl⟩; exact ⟨[], rfl, trivial, rfl⟩)) rfl
 intro θ R hd
 exact Opp.plain (OG.imp (OD.loadAgg rfl ti30 rfl (i := 5) rfl (us := [.int .i64 (cr), vcd]) rfl rfl) (by rintro _ _ ⟨rfl, rfl⟩; exact ⟨[], rfl, trivial, rfl⟩)) rfl
 intro θ R hd
 obtain ⟨h1d, _⟩ := hd
 exact Opp.plain (OG.imp (OG.call [.agg #[.int .i64 (cr), vcd]] ent22 rfl rfl rfl rfl (by exact (toCartan_s scd (Ent.drop 6 ecd.app) (by omega)))) (by rintro _ _ ⟨v12, rfl, hs13, rfl⟩; exact ⟨[v12], rfl, hs13, rfl⟩)) rfl
 intro θ R hd
 obtain ⟨h0d, h2d, _⟩ := hd
 exact Opp.plain (OG.imp (OG.call [.agg #[.int .i64 (cr), v7], .agg #[.int .i64 (cr), ((θ 2).getD 0 undef)]] ent17 rfl rfl rfl rfl (by exact (eqCartan_same hs8 (Ent.ints (i := 3) rfl) h2d (Ent.ints (i := 0) rfl) (by omega)))) (by rintro _ _ ⟨rfl, rfl⟩; exact ⟨[], rfl, trivial, rfl⟩)) rfl
 intro θ R hd
 obtain ⟨h3d, _⟩ := hd
 exact Opp.plain (OG.imp (OD.not rfl rfl) (by rintro _ _ ⟨rfl, rfl⟩; exact ⟨[], rfl, trivial, rfl⟩)) rfl
 intro θ hall
 obtain ⟨_, _, h2a, _, _, _⟩ := hall
 refine G.at [] 0 (env' := [(1, .pointer (some ⟨g1, 0, none⟩)), (4, v5), (5, .pointer (some ⟨g9, 0, none⟩)), (6, v10), (31, .bool false)]) ⟨rfl, rfl, rfl, rfl, rfl, trivial⟩ (own' := ints 3 ((θ 2).getD 0 undef) cd :: ints 3 v10 (lenOf cr cd) :: box g9 24 [.int .i64 (cr), v7] :: ints 3 v7 cd :: ints 3 v5 (lenOf cr cd) :: ints 3 v3 cd :: box g1 30 [.int .i64 (cr), vcd] :: own) rfl ?_
 have hs14 : IsS ((θ 2).getD 0 undef) := h2a
 clear h2a
 generalize ((θ 2).getD 0 undef) = v15 at *
 show G _ _ _ [] _ _ _ _
 refine G.nil (GE.then_ (GC.condF rfl (GC.skip (GE.then_ (GC.seq (GC.region ?_))))))
 refine G.stepD (OD.assign rfl rfl) rfl rfl rfl ?_
 refine G.nil (GE.then_ (GC.seq (GC.region ?_)))
 refine G.stepD (OD.loadAgg rfl ti24 rfl (i := 2) rfl (us := [.int .i64 (cr), v7]) rfl rfl) rfl rfl rfl ?_
 refine G.stepD (OD.move rfl rfl) rfl rfl rfl ?_
 refine G.at [3] 0 (env' := [(1, .pointer (some ⟨g1, 0, none⟩)), (4, v5), (5, .pointer (some ⟨g9, 0, none⟩)), (6, v10), (31, .bool false), (7, .int .i64 (1)), (32, .agg #[.int .i64 (cr), v7]), (33, .int .i64 (1))]) ⟨rfl, rfl, rfl, rfl, rfl, rfl, rfl, rfl, trivial⟩ (own' := ints 3 v7 cd :: ints 3 v15 cd :: ints 3 v10 (lenOf cr cd) :: box g9 24 [.int .i64 (cr), v7] :: ints 3 v5 (lenOf cr cd) :: ints 3 v3 cd :: box g1 30 [.int .i64 (cr), vcd] :: own) rfl ?_
 refine G.step (OG.call [.agg #[.int .i64 (cr), v7], .int .i64 (1)] ent18 rfl rfl rfl rfl (by exact (markCartan_s hs8 (by omega) (by omega)))) rfl rfl rfl ?_
 rintro _ _ ⟨rfl, rfl⟩
 refine G.stepD (OD.assign rfl rfl) rfl rfl rfl ?_
 refine G.nil (GE.then_ (GC.seq (GC.seq (GC.region ?_))))
 refine G.stepD (OD.move rfl rfl) rfl rfl rfl ?_
 refine G.stepD (OD.eqv (OD.lss rfl rfl rfl) (congrArg Value.bool ((decide_eq_false (by omega)) : _ = false))) rfl rfl rfl ?_
 refine G.stepD (OD.move rfl rfl) rfl rfl rfl ?_
 refine G.stepGD (OD.move rfl rfl) rfl rfl rfl rfl rfl ?_
 refine G.stepGD (OD.move rfl rfl) rfl rfl rfl rfl rfl ?_
 refine G.stepG (OG.call [v10, v5] ent29 rfl rfl rfl rfl (by exact (eqIntS_same hs11 (Ent.ints (i := 2) rfl) hs6 (Ent.ints (i := 4) rfl) (by omega)))) rfl rfl rfl rfl rfl ?_
 rintro _ _ ⟨rfl, rfl⟩
 refine G.stepGD (OD.not rfl rfl) rfl rfl rfl rfl rfl ?_
 refine G.stepD (OD.pickF rfl rfl rfl) rfl rfl rfl ?_
 refine G.nil (GE.then_ (GC.condF rfl (GC.skip (GE.then_ (GC.seq (GC.region ?_))))))
 refine G.stepD (OD.assign rfl rfl) rfl rfl rfl ?_
 refine G.nil (GE.then_ (GC.seq (GC.region ?_)))
 refine G.stepD (OD.move rfl rfl) rfl rfl rfl ?_
 refine G.stepD (OD.move rfl rfl) rfl rfl rfl ?_
 refine G.at [2] 0 (env' := [(1, .pointer (some ⟨g1, 0, none⟩)), (4, v5), (5, .pointer (some ⟨g9, 0, none⟩)), (6, v10), (31, .bool false), (32, .agg #[.int .i64 (cr), v7]), (33, .int .i64 (1)), (34, .int .i64 (1 + (cd.length : Nat))), (7, .int .i64 (1 + (cd.length : Nat))), (35, .int .i64 (1 + (cd.length : Nat))), (36, .bool false), (37, .bool false), (38, v10), (39, v5), (40, .bool true), (41, .bool false), (42, .bool false), (8, .int .i64 (1)), (43, v10), (44, .int .i64 (1))]) ⟨rfl, rfl, rfl, rfl, rfl, rfl, rfl, rfl, rfl, rfl, rfl, rfl, rfl, rfl, rfl, rfl, rfl, rfl, rfl, rfl, trivial⟩ (own' := ints 3 v10 (lenOf cr cd) :: ints 3 v7 (mkd 1 cd.length) :: ints 3 v15 cd :: box g9 24 [.int .i64 (cr), v7] :: ints 3 v5 (lenOf cr cd) :: ints 3 v3 cd :: box g1 30 [.int .i64 (cr), vcd] :: own) rfl ?_
 refine G.step (OG.call [v10, .int .i64 (1)] ent32 rfl rfl rfl rfl (by exact (markIntS_s hs11 (by omega) (by omega)))) rfl rfl rfl ?_
 rintro _ _ ⟨rfl, rfl⟩
 refine G.stepD (OD.assign rfl rfl) rfl rfl rfl ?_
 refine G.nil (GE.then_ (GC.seq (GC.region ?_)))
 refine G.stepD (OD.assign rfl rfl) rfl rfl rfl ?_
 refine G.nil (GE.then_ (GC.seq (GC.region ?_)))
 refine G.stepD (OD.move rfl rfl) rfl rfl rfl ?_
 refine G.stepD (OD.move rfl rfl) rfl rfl rfl ?_
 refine G.step (OG.call [v10, .int .i64 (1)] ent35 rfl rfl rfl rfl (by exact (heldIntS_m hs11 (Ent.ints (i := 0) rfl) (by omega) (by omega)))) rfl rfl rfl ?_
 rintro _ _ ⟨rfl, rfl⟩
 refine G.stepD (OD.assign rfl rfl) rfl rfl rfl ?_
 refine G.nil (GE.then_ (GC.seq (GC.seq (GC.region ?_))))
 refine G.stepD (OD.move rfl rfl) rfl rfl rfl ?_
 refine G.stepD (OD.eqv (OD.lss rfl rfl rfl) (congrArg Value.bool ((decide_eq_false (by omega)) : _ = false))) rfl rfl rfl ?_
 refine G.nil (GE.then_ (GC.condF rfl (GC.skip (GE.then_ (GC.seq (GC.seq (GC.region ?_)))))))
 refine G.stepD (OD.move rfl rfl) rfl rfl rfl ?_
 refine G.stepD (OD.move rfl rfl) rfl rfl rfl ?_
 refine G.stepD (OD.eqv (OD.neq rfl rfl rfl) (congrArg Value.bool ((bne_same _) : _ = false))) rfl rfl rfl ?_
 refine G.nil (GE.then_ (GC.condF rfl (GC.skip (GE.then_ (GC.seq (GC.region ?_))))))
 refine G.stepD (OD.loadAgg rfl ti30 rfl (i := 6) rfl (us := [.int .i64 (cr), vcd]) rfl rfl) rfl rfl rfl ?_
 refine G.step (OG.call [.agg #[.int .i64 (cr), vcd]] ent22 rfl rfl rfl rfl (by exact (toCartan_s scd (Ent.drop 7 ecd) (by omega)))) rfl rfl rfl ?_
 rintro _ _ ⟨v16, rfl, hs17, rfl⟩
 refine G.step (OG.call [.agg #[.int .i64 (cr), v16]] ent37 rfl rfl rfl rfl (by exact (lengthsOf_w hs17 (Ent.ints (i := 0) rfl) (by omega) ((Ent.drop 8 hg))))) rfl rfl rfl ?_
 rintro v18 _ ⟨_, rfl, hs19, rfl⟩
 refine G.stepD (OD.assign rfl rfl) rfl rfl rfl ?_
 refine G.nil (GE.then_ (GC.seq (GC.seq (GC.region ?_))))
 refine G.stepD (OD.move rfl rfl) rfl rfl rfl ?_
 refine G.stepD (OD.move rfl rfl) rfl rfl rfl ?_
 refine G.step (OG.call [v18, v5] ent29 rfl rfl rfl rfl (by exact (eqIntS_same hs19 (Ent.ints (i := 0) rfl) hs6 (Ent.ints (i := 6) rfl) (by omega)))) rfl rfl rfl ?_
 rintro _ _ ⟨rfl, rfl⟩
 refine G.stepD (OD.not rfl rfl) rfl rfl rfl ?_
 refine G.nil (GE.then_ (GC.condF rfl (GC.skip (GE.then_ (GC.seq (GC.region ?_))))))
 refine G.stepD (OD.assign rfl rfl) rfl rfl rfl ?_
 refine G.nil (GE.then_ (GC.seq (GC.region ?_)))
 refine G.stepD (OD.move rfl rfl) rfl rfl rfl ?_
 refine G.stepD (OD.move rfl rfl) rfl rfl rfl ?_
 refine G.step (OG.call [v10, .int .i64 (1)] ent35 rfl rfl rfl rfl (by exact (heldIntS_m hs11 (Ent.ints (i := 2) rfl) (by omega) (by omega)))) rfl rfl rfl ?_
 rintro _ _ ⟨rfl, rfl⟩
 refine G.stepD (OD.assign rfl rfl) rfl rfl rfl ?_
 refine G.nil (GE.then_ (GC.seq (GC.seq (GC.region ?_))))
 refine G.stepD (OD.move rfl rfl) rfl rfl rfl ?_
 refine G.stepD (OD.eqv (OD.lss rfl rfl rfl) (congrArg Value.bool ((decide_eq_false (by omega)) : _ = false))) rfl rfl rfl ?_
 refine G.nil (GE.then_ (GC.condF rfl (GC.skip (GE.then_ (GC.seq (GC.seq (GC.region ?_)))))))
 refine G.stepD (OD.move rfl rfl) rfl rfl rfl ?_
 refine G.stepD (OD.move rfl rfl) rfl rfl rfl ?_
 refine G.stepD (OD.eqv (OD.neq rfl rfl rfl) (congrArg Value.bool ((bne_same _) : _ = false))) rfl rfl rfl ?_
 refine G.nil (GE.then_ (GC.condF rfl (GC.skip (GE.then_ (GC.seq (GC.region ?_))))))
 refine G.stepD (OD.assign rfl rfl) rfl rfl rfl ?_
 refine G.nil (GE.then_ (GC.ret ?_))
 exact GE.body [] 9 (res1 rfl rfl) rfl (⟨rfl, rfl⟩)

set_option maxHeartbeats 4000000 in
set_option maxRecDepth 100000 in
theorem lawInnerOf {W : World} {own : List Asn} {cr : Int} {vcd : Value} {cd : List Int} {vx : Value} {x : List Int} {vy : Value} {y : List Int}  (scd : IsS vcd) (ecd : Ent own fun w => Ints w vcd cd)   (sx : IsS vx) (ex : Ent own fun w => Ints w vx x)   (sy : IsS vy) (ey : Ent own fun w => Ints w vy y)  (hcd : cd.length ≤ 9223372036854775807) (hx : x.length ≤ 9223372036854775807) (hy : y.length ≤ 9223372036854775807) (hg : Ent own fun w => ∃ m, w.cell? ⟨Tryd.l146_ren.g 1, 0, none⟩ = some (.int .i64 m)) : Spec Tryd.prog 13 [.agg #[.int .i64 (cr), vcd], vx, vy] W own (fun v ow => v = .bool (true) ∧ ow = own) := by
 refine Spec.enter Tryd.f13 _ Tryd.func13 rfl (n := 59) rfl rfl ?_
 refine GC.seq (GC.region ?_)
 refine G.step (OG.box (cs := [.int .i64 (cr), vcd]) rfl rfl rfl) rfl rfl rfl ?_
 rintro _ _ ⟨g1, rfl, rfl⟩
 refine G.stepD (OD.assign rfl rfl) rfl rfl rfl ?_
 refine G.nil (GE.then_ (GC.seq (GC.seq (GC.region ?_))))
 refine G.stepD (OD.move rfl rfl) rfl rfl rfl ?_
 refine G.stepD (OD.len rfl rfl et22 rfl (Ent.drop 1 ex)) rfl rfl rfl ?_
 refine G.stepD (OD.gtr rfl rfl rfl) rfl rfl rfl ?_
 refine G.nil (GE.then_ ?_)
 refine GC.cond rfl (fun hc2 => ?_) (fun hc2 => ?_)
 replace hc2 := of_decide_eq_true hc2
 refine GC.seq (GC.region ?_)
 refine G.stepD (OD.assign rfl rfl) rfl rfl rfl ?_
 refine G.nil (GE.then_ (GC.ret (GE.passR ?_)))
 exact GE.body [] 1 (res1 rfl rfl) rfl (⟨rfl, rfl⟩)
 replace hc2 := of_decide_eq_false hc2
 refine GC.skip (GE.then_ (GC.seq (GC.seq (GC.region ?_))))
 refine G.stepD (OD.move rfl rfl) rfl rfl rfl ?_
 refine G.stepD (OD.len rfl rfl et22 rfl (Ent.drop 1 ey)) rfl rfl rfl ?_
 refine G.stepD (OD.gtr rfl rfl rfl) rfl rfl rfl ?_
 refine G.nil (GE.then_ ?_)
 refine GC.cond rfl (fun hc3 => ?_) (fun hc3 => ?_)
 replace hc3 := of_decide_eq_true hc3
 refine GC.seq (GC.region ?_)
 refine G.stepD (OD.assign rfl rfl) rfl rfl rfl ?_
 refine G.nil (GE.then_ (GC.ret (GE.passR ?_)))
 exact GE.body [] 1 (res1 rfl rfl) rfl (⟨rfl, rfl⟩)
 replace hc3 := of_decide_eq_false hc3
 refine GC.skip (GE.then_ (GC.seq (GC.region ?_)))
 refine G.stepD (OD.assign rfl rfl) rfl rfl rfl ?_
 refine G.nil (GE.then_ (GC.seq (GC.region ?_)))
 refine G.stepD (OD.loadAgg rfl ti30 rfl (i := 0) rfl (us := [.int .i64 (cr), vcd]) rfl rfl) rfl rfl rfl ?_
 refine G.stepD (OD.move rfl rfl) rfl rfl rfl ?_
 refine G.step (OG.call [.agg #[.int .i64 (cr), vcd], .int .i64 (1048576)] ent20 rfl rfl rfl rfl (by exact (szCartan_s scd (Ent.drop 1 ecd) (by omega) (by omega)))) rfl rfl rfl ?_
 rintro _ _ ⟨rfl, rfl⟩
 refine G.stepD (OD.assign rfl rfl) rfl rfl rfl ?_
 refine G.nil (GE.then_ (GC.seq (GC.seq (GC.region ?_))))
 refine G.stepD (OD.move rfl rfl) rfl rfl rfl ?_
 refine G.stepD (OD.lss rfl rfl rfl) rfl rfl rfl ?_
 refine G.nil (GE.then_ ?_)
 refine GC.cond rfl (fun hc4 => ?_) (fun hc4 => ?_)
 replace hc4 := of_decide_eq_true hc4
 refine GC.seq (GC.region ?_)
 refine G.stepD (OD.assign rfl rfl) rfl rfl rfl ?_
 refine G.nil (GE.then_ (GC.ret (GE.passR ?_)))
 exact GE.body [] 1 (res1 rfl rfl) rfl (⟨rfl, rfl⟩)
 replace hc4 := of_decide_eq_false hc4
 have hc4z := szG_ok hc4
 refine GC.skip (GE.then_ (GC.seq (GC.region ?_)))
 refine G.stepD (OD.loadAgg rfl ti30 rfl (i := 0) rfl (us := [.int .i64 (cr), vcd]) rfl rfl) rfl rfl rfl ?_
 refine G.step (OG.call [.agg #[.int .i64 (cr), vcd]] ent22 rfl rfl rfl rfl (by exact (toCartan_s scd (Ent.drop 1 ecd) (by omega)))) rfl rfl rfl ?_
 rintro _ _ ⟨v5, rfl, hs6, rfl⟩
 refine G.stepD (OD.move rfl rfl) rfl rfl rfl ?_
 refine G.step (OG.call [vx] ent27 rfl rfl rfl rfl (by exact (toIntS_s sx (Ent.drop 2 ex) (by omega)))) rfl rfl rfl ?_
 rintro v7 _ ⟨_, rfl, hs8, rfl⟩
 refine G.stepD (OD.move rfl rfl) rfl rfl rfl ?_
 refine G.step (OG.call [vy] ent27 rfl rfl rfl rfl (by exact (toIntS_s sy (Ent.drop 3 ey) (by omega)))) rfl rfl rfl ?_
 rintro v9 _ ⟨_, rfl, hs10, rfl⟩
 refine G.step (OG.call [.agg #[.int .i64 (cr), v5], v7, v9] ent47 rfl rfl rfl rfl (by exact (specInnerOf_w hs6 (Ent.ints (i := 2) rfl) hs8 (Ent.ints (i := 1) rfl) hs10 (Ent.ints (i := 0) rfl) (by omega) (by omega) (by omega)))) rfl rfl rfl ?_
 rintro _ _ ⟨rfl, rfl⟩
 refine G.stepD (OD.assign rfl rfl) rfl rfl rfl ?_
 refine G.nil (GE.then_ (GC.seq (GC.region ?_)))
 refine G.stepD (OD.loadAgg rfl ti30 rfl (i := 3) rfl (us := [.int .i64 (cr), vcd]) rfl rfl) rfl rfl rfl ?_
 refine G.step (OG.call [.agg #[.int .i64 (cr), vcd]] ent22 rfl rfl rfl rfl (by exact (toCartan_s scd (Ent.drop 4 ecd) (by omega)))) rfl rfl rfl ?_
 rintro _ _ ⟨v11, rfl, hs12, rfl⟩
 refine G.step (OG.alloc rfl ti24 (zs := [.int .i64 (0), .slice none 0 0]) rfl) rfl rfl rfl ?_
 rintro _ _ ⟨g13, rfl, rfl⟩
 refine G.stepD0 (OD.store rfl ti24 rfl rfl (us := [.int .i64 (cr), v11]) rfl rfl (allC rfl (allC (IsS.one hs12) rfl)) (i := 0) rfl rfl) rfl rfl ?_
 refine G.nil (GE.then_ (GC.seq (GC.region ?_)))
 refine G.stepD (OD.move rfl rfl) rfl rfl rfl ?_
 refine G.step (OG.call [vx] ent27 rfl rfl rfl rfl (by exact (toIntS_s sx (Ent.drop 6 ex) (by omega)))) rfl rfl rfl ?_
 rintro v14 _ ⟨_, rfl, hs15, rfl⟩
 refine G.stepD (OD.assign rfl rfl) rfl rfl rfl ?_
 refine G.nil (GE.then_ (GC.seq (GC.region ?_)))
 refine G.stepD (OD.move rfl rfl) rfl rfl rfl ?_
 refine G.step (OG.call [vy] ent27 rfl rfl rfl rfl (by exact (toIntS_s sy (Ent.drop 7 ey) (by omega)))) rfl rfl rfl ?_
 rintro v16 _ ⟨_, rfl, hs17, rfl⟩
 refine G.stepD (OD.assign rfl rfl) rfl rfl rfl ?_
 refine G.nil (GE.then_ (GC.seq (GC.region ?_)))
 refine G.stepD (OD.loadAgg rfl ti24 rfl (i := 2) rfl (us := [.int .i64 (cr), v11]) rfl rfl) rfl rfl rfl ?_
 refine G.stepD (OD.move rfl rfl) rfl rfl rfl ?_
 refine G.stepD (OD.move rfl rfl) rfl rfl rfl ?_
 refine G.step (OG.call [.agg #[.int .i64 (cr), v11], v14, v16] ent48 rfl rfl rfl rfl (by exact (innerOf_w hs12 (Ent.ints (i := 3) rfl) hs15 (Ent.ints (i := 1) rfl) hs17 (Ent.ints (i := 0) rfl) (by omega) (by omega) (by omega) ((Ent.drop 8 hg))))) rfl rfl rfl ?_
 rintro _ _ ⟨rfl, rfl⟩
 refine G.stepD (OD.assign rfl rfl) rfl rfl rfl ?_
 refine G.nil (GE.then_ (GC.seq (GC.seq (GC.region ?_))))
 refine G.stepD (OD.move rfl rfl) rfl rfl rfl ?_
 refine G.stepD (OD.move rfl rfl) rfl rfl rfl ?_
 refine G.stepD (OD.eqv (OD.neq rfl rfl rfl) (congrArg Value.bool ((bne_same _) : _ = false))) rfl rfl rfl ?_
 refine G.nil (GE.then_ (GC.condF rfl (GC.skip (GE.then_ (GC.seq (GC.seq ?_))))))
 refine GC.at [] 0 (env' := [(1, vx), (2, vy), (3, .pointer (some ⟨g1, 0, none⟩)), (9, .pointer (some ⟨g13, 0, none⟩)), (10, v14), (11, v16)]) ⟨rfl, rfl, rfl, rfl, rfl, rfl, trivial⟩ rfl ?_
 refine GC.par (its := [⟨44, [], [], [], [], fun _ => .agg #[.int .i64 (cr), v11], fun _ => True, fun _ => []⟩,
     ⟨45, [], [], [], [], fun _ => .agg #[.int .i64 (cr), vcd], fun _ => True, fun _ => []⟩,
     ⟨46, [(1, 45)], [], [], [2], fun ds => .agg #[.int .i64 (cr), ((ds.getD 0 []).getD 0 undef)], fun ds => IsS ((ds.getD 0 []).getD 0 undef), fun ds => [ints 3 ((ds.getD 0 []).getD 0 undef) cd]⟩,
     ⟨47, [(0, 44), (2, 46)], [2], [], [2], fun _ => .bool true, fun _ => True, fun _ => []⟩,
     ⟨48, [(3, 47)], [2], [], [2], fun _ => .bool false, fun _ => True, fun _ => []⟩]) (by kernel_rfl) (by kernel_rfl) (POps.cons ?_ (POps.cons ?_ (POps.cons ?_ (POps.cons ?_ (POps.cons ?_ POps.nil))))) ?_
 intro θ R hd
 exact Opp.plain (OG.imp (OD.loadAgg rfl ti24 rfl (i := 2) rfl (us := [.int .i64 (cr), v11]) rfl rfl) (by rintro _ _ ⟨rfl, rfl⟩; exact ⟨[], rfl, trivial, rfl⟩)) rfl
 intro θ R hd
 exact Opp.plain (OG.imp (OD.loadAgg rfl ti30 rfl (i := 7) rfl (us := [.int .i64 (cr), vcd]) rfl rfl) (by rintro _ _ ⟨rfl, rfl⟩; exact ⟨[], rfl, trivial, rfl⟩)) rfl
 intro θ R hd
 obtain ⟨h1d, _⟩ := hd
 exact Opp.plain (OG.imp (OG.call [.agg #[.int .i64 (cr), vcd]] ent22 rfl rfl rfl rfl (by exact (toCartan_s scd (Ent.drop 8 ecd.app) (by omega)))) (by rintro _ _ ⟨v18, rfl, hs19, rfl⟩; exact ⟨[v18], rfl, hs19, rfl⟩)) rfl
 intro θ R hd
 obtain ⟨h0d, h2d, _⟩ := hd
 exact Opp.plain (OG.imp (OG.call [.agg #[.int .i64 (cr), v11], .agg #[.int .i64 (cr), ((θ 2).getD 0 undef)]] ent17 rfl rfl rfl rfl (by exact (eqCartan_same hs12 (Ent.ints (i := 4) rfl) h2d (Ent.ints (i := 0) rfl) (by omega)))) (by rintro _ _ ⟨rfl, rfl⟩; exact ⟨[], rfl, trivial, rfl⟩)) rfl
 intro θ R hd
 obtain ⟨h3d, _⟩ := hd
 exact Opp.plain (OG.imp (OD.not rfl rfl) (by rintro _ _ ⟨rfl, rfl⟩; exact ⟨[], rfl, trivial, rfl⟩)) rfl
 intro θ hall
 obtain ⟨_, _, h2a, _, _, _⟩ := hall
 refine G.at [] 0 (env' := [(1, vx), (2, vy), (10, v14), (11, v16), (48, .bool false)]) ⟨rfl, rfl, rfl, rfl, rfl, trivial⟩ (own' := ints 3 ((θ 2).getD 0 undef) cd :: ints 3 v16 y :: ints 3 v14 x :: box g13 24 [.int .i64 (cr), v11] :: ints 3 v11 cd :: ints 3 v9 y :: ints 3 v7 x :: ints 3 v5 cd :: box g1 30 [.int .i64 (cr), vcd] :: own) rfl ?_
 have hs20 : IsS ((θ 2).getD 0 undef) := h2a
 clear h2a
 generalize ((θ 2).getD 0 undef) = v21 at *
 show G _ _ _ [] _ _ _ _
 refine G.nil (GE.then_ (GC.condF rfl (GC.skip (GE.then_ (GC.seq (GC.seq (GC.region ?_)))))))
 refine G.stepD (OD.move rfl rfl) rfl rfl rfl ?_
 refine G.stepD (OD.move rfl rfl) rfl rfl rfl ?_
 refine G.step (OG.call [vx] ent27 rfl rfl rfl rfl (by exact (toIntS_s sx (Ent.drop 9 ex) (by omega)))) rfl rfl rfl ?_
 rintro v22 _ ⟨_, rfl, hs23, rfl⟩
 refine G.step (OG.call [v14, v22] ent29 rfl rfl rfl rfl (by exact (eqIntS_same hs15 (Ent.ints (i := 3) rfl) hs23 (Ent.ints (i := 0) rfl) (by omega)))) rfl rfl rfl ?_
 rintro _ _ ⟨rfl, rfl⟩
 refine G.stepD (OD.not rfl rfl) rfl rfl rfl ?_
 refine G.nil (GE.then_ (GC.condF rfl (GC.skip (GE.then_ (GC.seq (GC.seq (GC.region ?_)))))))
 refine G.stepD (OD.move rfl rfl) rfl rfl rfl ?_
 refine G.stepD (OD.move rfl rfl) rfl rfl rfl ?_
 refine G.step (OG.call [vy] ent27 rfl rfl rfl rfl (by exact (toIntS_s sy (Ent.drop 10 ey) (by omega)))) rfl rfl rfl ?_
 rintro v24 _ ⟨_, rfl, hs25, rfl⟩
 refine G.step (OG.call [v16, v24] ent29 rfl rfl rfl rfl (by exact (eqIntS_same hs17 (Ent.ints (i := 3) rfl) hs25 (Ent.ints (i := 0) rfl) (by omega)))) rfl rfl rfl ?_
 rintro _ _ ⟨rfl, rfl⟩
 refine G.stepD (OD.not rfl rfl) rfl rfl rfl ?_
 refine G.nil (GE.then_ (GC.condF rfl (GC.skip (GE.then_ (GC.seq (GC.region ?_))))))
 refine G.stepD (OD.assign rfl rfl) rfl rfl rfl ?_
 refine G.nil (GE.then_ (GC.ret ?_))
 exact GE.body [] 11 (res1 rfl rfl) rfl (⟨rfl, rfl⟩)

set_option maxHeartbeats 4000000 in
set_option maxRecDepth 100000 in
theorem lawSubCartan {W : World} {own : List Asn} {cr : Int} {vcd : Value} {cd : List Int} {vx : Value} {x : List Int}  (scd : IsS vcd) (ecd : Ent own fun w => Ints w vcd cd)   (sx : IsS vx) (ex : Ent own fun w => Ints w vx x)  (hcd : cd.length ≤ 9223372036854775807) (hx : x.length ≤ 9223372036854775807) (hg : Ent own fun w => ∃ m, w.cell? ⟨Tryd.l146_ren.g 1, 0, none⟩ = some (.int .i64 m)) : Spec Tryd.prog 7 [.agg #[.int .i64 (cr), vcd], vx] W own (fun v ow => v = .bool (true) ∧ ow = own) := by
 have hrl := subDt_len cr cd x
 refine Spec.enter Tryd.f7 _ Tryd.func7 rfl (n := 117) rfl rfl ?_
 refine GC.seq (GC.region ?_)
 refine G.step (OG.box (cs := [.int .i64 (cr), vcd]) rfl rfl rfl) rfl rfl rfl ?_
 rintro _ _ ⟨g1, rfl, rfl⟩
 refine G.stepD (OD.assign rfl rfl) rfl rfl rfl ?_
 refine G.nil (GE.then_ (GC.seq (GC.seq (GC.region ?_))))
 refine G.stepD (OD.move rfl rfl) rfl rfl rfl ?_
 refine G.stepD (OD.len rfl rfl et22 rfl (Ent.drop 1 ex)) rfl rfl rfl ?_
 refine G.stepD (OD.gtr rfl rfl rfl) rfl rfl rfl ?_
 refine G.nil (GE.then_ ?_)
 refine GC.cond rfl (fun hc2 => ?_) (fun hc2 => ?_)
 replace hc2 := of_decide_eq_true hc2
 refine GC.seq (GC.region ?_)
 refine G.stepD (OD.assign rfl rfl) rfl rfl rfl ?_
 refine G.nil (GE.then_ (GC.ret (GE.passR ?_)))
 exact GE.body [] 1 (res1 rfl rfl) rfl (⟨rfl, rfl⟩)
 replace hc2 := of_decide_eq_false hc2
 refine GC.skip (GE.then_ (GC.seq (GC.region ?_)))
 refine G.stepD (OD.assign rfl rfl) rfl rfl rfl ?_
 refine G.nil (GE.then_ (GC.seq (GC.region ?_)))
 refine G.stepD (OD.loadAgg rfl ti30 rfl (i := 0) rfl (us := [.int .i64 (cr), vcd]) rfl rfl) rfl rfl rfl ?_
 refine G.stepD (OD.move rfl rfl) rfl rfl rfl ?_
 refine G.step (OG.call [.agg #[.int .i64 (cr), vcd], .int .i64 (1048576)] ent20 rfl rfl rfl rfl (by exact (szCartan_s scd (Ent.drop 1 ecd) (by omega) (by omega)))) rfl rfl rfl ?_
 rintro _ _ ⟨rfl, rfl⟩
 refine G.stepD (OD.assign rfl rfl) rfl rfl rfl ?_
 refine G.nil (GE.then_ (GC.seq (GC.seq (GC.region ?_))))
 refine G.stepD (OD.move rfl rfl) rfl rfl rfl ?_
 refine G.stepD (OD.lss rfl rfl rfl) rfl rfl rfl ?_
 refine G.nil (GE.then_ ?_)
 refine GC.cond rfl (fun hc3 => ?_) (fun hc3 => ?_)
 replace hc3 := of_decide_eq_true hc3
 refine GC.seq (GC.region ?_)
 refine G.stepD (OD.assign rfl rfl) rfl rfl rfl ?_
 refine G.nil (GE.then_ (GC.ret (GE.passR ?_)))
 exact GE.body [] 1 (res1 rfl rfl) rfl (⟨rfl, rfl⟩)
 replace hc3 := of_decide_eq_false hc3
 have hc3z := szG_ok hc3
 refine GC.skip (GE.then_ (GC.seq (GC.region ?_)))
 refine G.stepD (OD.loadAgg rfl ti30 rfl (i := 0) rfl (us := [.int .i64 (cr), vcd]) rfl rfl) rfl rfl rfl ?_
 refine G.step (OG.call [.agg #[.int .i64 (cr), vcd]] ent22 rfl rfl rfl rfl (by exact (toCartan_s scd (Ent.drop 1 ecd) (by omega)))) rfl rfl rfl ?_
 rintro _ _ ⟨v4, rfl, hs5, rfl⟩
 refine G.stepD (OD.move rfl rfl) rfl rfl rfl ?_
 refine G.step (OG.call [vx] ent27 rfl rfl rfl rfl (by exact (toIntS_s sx (Ent.drop 2 ex) (by omega)))) rfl rfl rfl ?_
 rintro v6 _ ⟨_, rfl, hs7, rfl⟩
 refine G.step (OG.call [.agg #[.int .i64 (cr), v4], v6] ent30 rfl rfl rfl rfl (by exact (specSubCartan_w hs5 (Ent.ints (i := 1) rfl) hs7 (Ent.ints (i := 0) rfl) (by omega) (by omega)))) rfl rfl rfl ?_
 rintro _ _ ⟨v8, rfl, hs9, rfl⟩
 refine G.stepD (OD.move rfl rfl) rfl rfl rfl ?_
 refine G.stepD (OD.extract rfl rfl rfl) rfl rfl rfl ?_
 refine G.stepD (OD.extract rfl rfl rfl) rfl rfl rfl ?_
 refine G.step (OG.alloc rfl ti24 (zs := [.int .i64 (0), .slice none 0 0]) rfl) rfl rfl rfl ?_
 rintro _ _ ⟨g10, rfl, rfl⟩
 refine G.stepD0 (OD.store rfl ti24 rfl rfl (us := [.int .i64 (subRk cr cd x), v8]) rfl rfl (allC rfl (allC (IsS.one hs9) rfl)) (i := 0) rfl rfl) rfl rfl ?_
 refine G.stepD (OD.assign rfl rfl) rfl rfl rfl ?_
 refine G.nil (GE.then_ (GC.seq (GC.region ?_)))
 refine G.stepD (OD.loadAgg rfl ti30 rfl (i := 4) rfl (us := [.int .i64 (cr), vcd]) rfl rfl) rfl rfl rfl ?_
 refine G.step (OG.call [.agg #[.int .i64 (cr), vcd]] ent22 rfl rfl rfl rfl (by exact (toCartan_s scd (Ent.drop 5 ecd) (by omega)))) rfl rfl rfl ?_
 rintro _ _ ⟨v11, rfl, hs12, rfl⟩
 refine G.step (OG.alloc rfl ti24 (zs := [.int .i64 (0), .slice none 0 0]) rfl) rfl rfl rfl ?_
 rintro _ _ ⟨g13, rfl, rfl⟩
 refine G.stepD0 (OD.store rfl ti24 rfl rfl (us := [.int .i64 (cr), v11]) rfl rfl (allC rfl (allC (IsS.one hs12) rfl)) (i := 0) rfl rfl) rfl rfl ?_
 refine G.nil (GE.then_ (GC.seq (GC.region ?_)))
 refine G.stepD (OD.move rfl rfl) rfl rfl rfl ?_
 refine G.step (OG.call [vx] ent27 rfl rfl rfl rfl (by exact (toIntS_s sx (Ent.drop 7 ex) (by omega)))) rfl rfl rfl ?_
 rintro v14 _ ⟨_, rfl, hs15, rfl⟩
 refine G.stepD (OD.assign rfl rfl) rfl rfl rfl ?_
 refine G.nil (GE.then_ (GC.seq (GC.region ?_)))
 refine G.stepD (OD.loadAgg rfl ti24 rfl (i := 1) rfl (us := [.int .i64 (cr), v11]) rfl rfl) rfl rfl rfl ?_
 refine G.stepD (OD.move rfl rfl) rfl rfl rfl ?_
 refine G.step (OG.call [.agg #[.int .i64 (cr), v11], v14] ent31 rfl rfl rfl rfl (by exact (subCartan_w hs12 (Ent.ints (i := 2) rfl) hs15 (Ent.ints (i := 0) rfl) (by omega) (by omega) ((Ent.drop 8 hg))))) rfl rfl rfl ?_
 rintro _ _ ⟨v16, rfl, hs17, rfl⟩
 refine G.stepD (OD.move rfl rfl) rfl rfl rfl ?_
 refine G.stepD (OD.extract rfl rfl rfl) rfl rfl rfl ?_
 refine G.stepD (OD.extract rfl rfl rfl) rfl rfl rfl ?_
 refine G.step (OG.alloc rfl ti24 (zs := [.int .i64 (0), .slice none 0 0]) rfl) rfl rfl rfl ?_
 rintro _ _ ⟨g18, rfl, rfl⟩
 refine G.stepD0 (OD.store rfl ti24 rfl rfl (us := [.int .i64 (subRk cr cd x), v16]) rfl rfl (allC rfl (allC (IsS.one hs17) rfl)) (i := 0) rfl rfl) rfl rfl ?_
 refine G.stepD (OD.assign rfl rfl) rfl rfl rfl ?_
 refine G.nil (GE.then_ (GC.seq (GC.seq (GC.region ?_))))
 refine G.stepD (OD.loadAgg rfl ti24 rfl (i := 0) rfl (us := [.int .i64 (subRk cr cd x), v16]) rfl rfl) rfl rfl rfl ?_
 refine G.stepD (OD.loadAgg rfl ti24 rfl (i := 5) rfl (us := [.int .i64 (subRk cr cd x), v8]) rfl rfl) rfl rfl rfl ?_
 refine G.step (OG.call [.agg #[.int .i64 (subRk cr cd x), v16], .agg #[.int .i64 (subRk cr cd x), v8]] ent17 rfl rfl rfl rfl (by exact (eqCartan_same hs17 (Ent.ints (i := 1) rfl) hs9 (Ent.ints (i := 6) rfl) (by omega)))) rfl rfl rfl ?_
 rintro _ _ ⟨rfl, rfl⟩
 refine G.stepD (OD.not rfl rfl) rfl rfl rfl ?_
 refine G.stepD (OD.move rfl rfl) rfl rfl rfl ?_
 refine G.stepGD (OD.move rfl rfl) rfl rfl rfl rfl rfl ?_
 refine G.stepGD (OD.move rfl rfl) rfl rfl rfl rfl rfl ?_
 refine G.stepGD (OD.eqv (OD.neqB bt4 rfl rfl rfl) (congrArg Value.bool (bneB_same _))) rfl rfl rfl rfl rfl ?_
 refine G.stepD (OD.pickF rfl rfl rfl) rfl rfl rfl ?_
 refine G.nil (GE.then_ (GC.condF rfl (GC.skip (GE.then_ (GC.seq (GC.seq ?_))))))
 refine GC.at [] 0 (env' := [(1, vx), (2, .pointer (some ⟨g1, 0, none⟩)), (6, .pointer (some ⟨g10, 0, none⟩)), (7, .bool (subOk cr cd x)), (8, .pointer (some ⟨g13, 0, none⟩)), (9, v14), (10, .pointer (some ⟨g18, 0, none⟩)), (11, .bool (subOk cr cd x))]) ⟨rfl, rfl, rfl, rfl, rfl, rfl, rfl, rfl, trivial⟩ rfl ?_
 refine GC.par (its := [⟨52, [], [], [], [], fun _ => .agg #[.int .i64 (cr), v11], fun _ => True, fun _ => []⟩,
     ⟨53, [], [], [], [], fun _ => .agg #[.int .i64 (cr), vcd], fun _ => True, fun _ => []⟩,
     ⟨54, [(1, 53)], [], [], [2], fun ds => .agg #[.int .i64 (cr), ((ds.getD 0 []).getD 0 undef)], fun ds => IsS ((ds.getD 0 []).getD 0 undef), fun ds => [ints 3 ((ds.getD 0 []).getD 0 undef) cd]⟩,
     ⟨55, [(0, 52), (2, 54)], [2], [], [2], fun _ => .bool true, fun _ => True, fun _ => []⟩,
     ⟨56, [(3, 55)], [2], [], [2], fun _ => .bool false, fun _ => True, fun _ => []⟩]) (by kernel_rfl) (by kernel_rfl) (POps.cons ?_ (POps.cons ?_ (POps.cons ?_ (POps.cons ?_ (POps.cons ?_ POps.nil))))) ?_
 intro θ R hd
 exact Opp.plain (OG.imp (OD.loadAgg rfl ti24 rfl (i := 3) rfl (us := [.int .i64 (cr), v11]) rfl rfl) (by rintro _ _ ⟨rfl, rfl⟩; exact ⟨[], rfl, trivial, rfl⟩)) rfl
 intro θ R hd
 exact Opp.plain (OG.imp (OD.loadAgg rfl ti30 rfl (i := 9) rfl (us := [.int .i64 (cr), vcd]) rfl rfl) (by rintro _ _ ⟨rfl, rfl⟩; exact ⟨[], rfl, trivial, rfl⟩)) rfl
 intro θ R hd
 obtain ⟨h1d, _⟩ := hd
 exact Opp.plain (OG.imp (OG.call [.agg #[.int .i64 (cr), vcd]] ent22 rfl rfl rfl rfl (by exact (toCartan_s scd (Ent.drop 10 ecd.app) (by omega)))) (by rintro _ _ ⟨v19, rfl, hs20, rfl⟩; exact ⟨[v19], rfl, hs20, rfl⟩)) rfl
 intro θ R hd
 obtain ⟨h0d, h2d, _⟩ := hd
 exact Opp.plain (OG.imp (OG.call [.agg #[.int .i64 (cr), v11], .agg #[.int .i64 (cr), ((θ 2).getD 0 undef)]] ent17 rfl rfl rfl rfl (by exact (eqCartan_same hs12 (Ent.ints (i := 5) rfl) h2d (Ent.ints (i := 0) rfl) (by omega)))) (by rintro _ _ ⟨rfl, rfl⟩; exact ⟨[], rfl, trivial, rfl⟩)) rfl
 intro θ R hd
 obtain ⟨h3d, _⟩ := hd
 exact Opp.plain (OG.imp (OD.not rfl rfl) (by rintro _ _ ⟨rfl, rfl⟩; exact ⟨[], rfl, trivial, rfl⟩)) rfl
 intro θ hall
 obtain ⟨_, _, h2a, _, _, _⟩ := hall
 refine G.at [] 0 (env' := [(1, vx), (2, .pointer (some ⟨g1, 0, none⟩)), (6, .pointer (some ⟨g10, 0, none⟩)), (7, .bool (subOk cr cd x)), (8, .pointer (some ⟨g13, 0, none⟩)), (9, v14), (10, .pointer (some ⟨g18, 0, none⟩)), (11, .bool (subOk cr cd x)), (56, .bool false)]) ⟨rfl, rfl, rfl, rfl, rfl, rfl, rfl, rfl, rfl, trivial⟩ (own' := ints 3 ((θ 2).getD 0 undef) cd :: box g18 24 [.int .i64 (subRk cr cd x), v16] :: ints 3 v16 (subDt cr cd x) :: ints 3 v14 x :: box g13 24 [.int .i64 (cr), v11] :: ints 3 v11 cd :: box g10 24 [.int .i64 (subRk cr cd x), v8] :: ints 3 v8 (subDt cr cd x) :: ints 3 v6 x :: ints 3 v4 cd :: box g1 30 [.int .i64 (cr), vcd] :: own) rfl ?_
 have hs21 : IsS ((θ 2).getD 0 undef) := h2a
 clear h2a
 generalize ((θ 2).getD 0 undef) = v22 at *
 show G _ _ _ [] _ _ _ _
 refine G.nil (GE.then_ (GC.condF rfl (GC.skip (GE.then_ (GC.seq (GC.seq (GC.region ?_)))))))
 refine G.stepD (OD.move rfl rfl) rfl rfl rfl ?_
 refine G.stepD (OD.move rfl rfl) rfl rfl rfl ?_
 refine G.step (OG.call [vx] ent27 rfl rfl rfl rfl (by exact (toIntS_s sx (Ent.drop 11 ex) (by omega)))) rfl rfl rfl ?_
 rintro v23 _ ⟨_, rfl, hs24, rfl⟩
 refine G.step (OG.call [v14, v23] ent29 rfl rfl rfl rfl (by exact (eqIntS_same hs15 (Ent.ints (i := 4) rfl) hs24 (Ent.ints (i := 0) rfl) (by omega)))) rfl rfl rfl ?_
 rintro _ _ ⟨rfl, rfl⟩
 refine G.stepD (OD.not rfl rfl) rfl rfl rfl ?_
 refine G.nil (GE.then_ (GC.condF rfl (GC.skip (GE.then_ (GC.seq (GC.region ?_))))))
 refine G.stepD (OD.assign rfl rfl) rfl rfl rfl ?_
 refine G.nil (GE.then_ (GC.seq (GC.region ?_)))
 refine G.stepD (OD.loadAgg rfl ti24 rfl (i := 5) rfl (us := [.int .i64 (cr), v11]) rfl rfl) rfl rfl rfl ?_
 refine G.stepD (OD.move rfl rfl) rfl rfl rfl ?_
 refine G.at [6] 0 (env' := [(1, vx), (2, .pointer (some ⟨g1, 0, none⟩)), (6, .pointer (some ⟨g10, 0, none⟩)), (7, .bool (subOk cr cd x)), (8, .pointer (some ⟨g13, 0, none⟩)), (9, v14), (10, .pointer (some ⟨g18, 0, none⟩)), (11, .bool (subOk cr cd x)), (56, .bool false), (57, v14), (58, vx), (59, v23), (60, .bool true), (61, .bool false), (12, .int .i64 (1)), (62, .agg #[.int .i64 (cr), v11]), (63, .int .i64 (1))]) ⟨rfl, rfl, rfl, rfl, rfl, rfl, rfl, rfl, rfl, rfl, rfl, rfl, rfl, rfl, rfl, rfl, rfl, trivial⟩ (own' := ints 3 v11 cd :: ints 3 v23 x :: ints 3 v22 cd :: box g18 24 [.int .i64 (subRk cr cd x), v16] :: ints 3 v16 (subDt cr cd x) :: ints 3 v14 x :: box g13 24 [.int .i64 (cr), v11] :: box g10 24 [.int .i64 (subRk cr cd x), v8] :: ints 3 v8 (subDt cr cd x) :: ints 3 v6 x :: ints 3 v4 cd :: box g1 30 [.int .i64 (cr), vcd] :: own) rfl ?_
 refine G.step (OG.call [.agg #[.int .i64 (cr), v11], .int .i64 (1)] ent18 rfl rfl rfl rfl (by exact (markCartan_s hs12 (by omega) (by omega)))) rfl rfl rfl ?_
 rintro _ _ ⟨rfl, rfl⟩
 refine G.stepD (OD.assign rfl rfl) rfl rfl rfl ?_
 refine G.nil (GE.then_ (GC.seq (GC.region ?_)))
 refine G.stepD (OD.move rfl rfl) rfl rfl rfl ?_
 refine G.stepD (OD.move rfl rfl) rfl rfl rfl ?_
 refine G.at [5] 0 (env' := [(1, vx), (2, .pointer (some ⟨g1, 0, none⟩)), (6, .pointer (some ⟨g10, 0, none⟩)), (7, .bool (subOk cr cd x)), (8, .pointer (some ⟨g13, 0, none⟩)), (9, v14), (10, .pointer (some ⟨g18, 0, none⟩)), (11, .bool (subOk cr cd x)), (56, .bool false), (57, v14), (58, vx), (59, v23), (60, .bool true), (61, .bool false), (62, .agg #[.int .i64 (cr), v11]), (63, .int .i64 (1)), (64, .int .i64 (1 + (cd.length : Nat))), (12, .int .i64 (1 + (cd.length : Nat))), (65, v14), (66, .int .i64 (1 + (cd.length : Nat)))]) ⟨rfl, rfl, rfl, rfl, rfl, rfl, rfl, rfl, rfl, rfl, rfl, rfl, rfl, rfl, rfl, rfl, rfl, rfl, rfl, rfl, trivial⟩ (own' := ints 3 v14 x :: ints 3 v11 (mkd 1 cd.length) :: ints 3 v23 x :: ints 3 v22 cd :: box g18 24 [.int .i64 (subRk cr cd x), v16] :: ints 3 v16 (subDt cr cd x) :: box g13 24 [.int .i64 (cr), v11] :: box g10 24 [.int .i64 (subRk cr cd x), v8] :: ints 3 v8 (subDt cr cd x) :: ints 3 v6 x :: ints 3 v4 cd :: box g1 30 [.int .i64 (cr), vcd] :: own) rfl ?_
 refine G.step (OG.call [v14, .int .i64 (1 + (cd.length : Nat))] ent32 rfl rfl rfl rfl (by exact (markIntS_s hs15 (by omega) (by omega)))) rfl rfl rfl ?_
 rintro _ _ ⟨rfl, rfl⟩
 refine G.stepD (OD.assign rfl rfl) rfl rfl rfl ?_
 refine G.nil (GE.then_ (GC.seq (GC.seq (GC.region ?_))))
 refine G.stepD (OD.move rfl rfl) rfl rfl rfl ?_
 refine G.stepD (OD.eqv (OD.lss rfl rfl rfl) (congrArg Value.bool ((decide_eq_false (by omega)) : _ = false))) rfl rfl rfl ?_
 refine G.stepD (OD.move rfl rfl) rfl rfl rfl ?_
 refine G.stepGD (OD.loadAgg rfl ti24 rfl (i := 4) rfl (us := [.int .i64 (subRk cr cd x), v16]) rfl rfl) rfl rfl rfl rfl rfl ?_
 refine G.stepGD (OD.loadAgg rfl ti24 rfl (i := 7) rfl (us := [.int .i64 (subRk cr cd x), v8]) rfl rfl) rfl rfl rfl rfl rfl ?_
 refine G.stepG (OG.call [.agg #[.int .i64 (subRk cr cd x), v16], .agg #[.int .i64 (subRk cr cd x), v8]] ent17 rfl rfl rfl rfl (by exact (eqCartan_same hs17 (Ent.ints (i := 5) rfl) hs9 (Ent.ints (i := 8) rfl) (by omega)))) rfl rfl rfl rfl rfl ?_
 rintro _ _ ⟨rfl, rfl⟩
 refine G.stepGD (OD.not rfl rfl) rfl rfl rfl rfl rfl ?_
 refine G.stepD (OD.pickF rfl rfl rfl) rfl rfl rfl ?_
 refine G.stepD (OD.move rfl rfl) rfl rfl rfl ?_
 refine G.stepGD (OD.move rfl rfl) rfl rfl rfl rfl rfl ?_
 refine G.stepGD (OD.move rfl rfl) rfl rfl rfl rfl rfl ?_
 refine G.stepGD (OD.eqv (OD.neqB bt4 rfl rfl rfl) (congrArg Value.bool (bneB_same _))) rfl rfl rfl rfl rfl ?_
 refine G.stepD (OD.pickF rfl rfl rfl) rfl rfl rfl ?_
 refine G.nil (GE.then_ (GC.condF rfl (GC.skip (GE.then_ (GC.seq (GC.region ?_))))))
 refine G.stepD (OD.assign rfl rfl) rfl rfl rfl ?_
 refine G.nil (GE.then_ (GC.seq (GC.region ?_)))
 refine G.stepD (OD.loadAgg rfl ti24 rfl (i := 4) rfl (us := [.int .i64 (subRk cr cd x), v16]) rfl rfl) rfl rfl rfl ?_
 refine G.stepD (OD.move rfl rfl) rfl rfl rfl ?_
 refine G.at [5] 0 (env' := [(1, vx), (2, .pointer (some ⟨g1, 0, none⟩)), (6, .pointer (some ⟨g10, 0, none⟩)), (7, .bool (subOk cr cd x)), (8, .pointer (some ⟨g13, 0, none⟩)), (9, v14), (10, .pointer (some ⟨g18, 0, none⟩)), (11, .bool (subOk cr cd x)), (56, .bool false), (57, v14), (58, vx), (59, v23), (60, .bool true), (61, .bool false), (62, .agg #[.int .i64 (cr), v11]), (63, .int .i64 (1)), (64, .int .i64 (1 + (cd.length : Nat))), (65, v14), (66, .int .i64 (1 + (cd.length : Nat))), (67, .int .i64 ((1 + (cd.length : Nat)) + (x.length : Nat))), (12, .int .i64 ((1 + (cd.length : Nat)) + (x.length : Nat))), (68, .int .i64 ((1 + (cd.length : Nat)) + (x.length : Nat))), (69, .bool false), (70, .bool false), (71, .agg #[.int .i64 (subRk cr cd x), v16]), (72, .agg #[.int .i64 (subRk cr cd x), v8]), (73, .bool true), (74, .bool false), (75, .bool false), (76, .bool false), (77, .bool (subOk cr cd x)), (78, .bool (subOk cr cd x)), (79, .bool false), (80, .bool false), (13, .int .i64 (1)), (81, .agg #[.int .i64 (subRk cr cd x), v16]), (82, .int .i64 (1))]) ⟨rfl, rfl, rfl, rfl, rfl, rfl, rfl, rfl, rfl, rfl, rfl, rfl, rfl, rfl, rfl, rfl, rfl, rfl, rfl, rfl, rfl, rfl, rfl, rfl, rfl, rfl, rfl, rfl, rfl, rfl, rfl, rfl, rfl, rfl, rfl, rfl, rfl, trivial⟩ (own' := ints 3 v16 (subDt cr cd x) :: ints 3 v14 (mkd (1 + (cd.length : Nat)) x.length) :: ints 3 v11 (mkd 1 cd.length) :: ints 3 v23 x :: ints 3 v22 cd :: box g18 24 [.int .i64 (subRk cr cd x), v16] :: box g13 24 [.int .i64 (cr), v11] :: box g10 24 [.int .i64 (subRk cr cd x), v8] :: ints 3 v8 (subDt cr cd x) :: ints 3 v6 x :: ints 3 v4 cd :: box g1 30 [.int .i64 (cr), vcd] :: own) rfl ?_
 refine G.step (OG.call [.agg #[.int .i64 (subRk cr cd x), v16], .int .i64 (1)] ent18 rfl rfl rfl rfl (by exact (markCartan_s hs17 (by omega) (by omega)))) rfl rfl rfl ?_
 rintro _ _ ⟨rfl, rfl⟩
 refine G.stepD (OD.assign rfl rfl) rfl rfl rfl ?_
 refine G.nil (GE.then_ (GC.seq (GC.region ?_)))
 refine G.stepD (OD.assign rfl rfl) rfl rfl rfl ?_
 refine G.nil (GE.then_ (GC.seq (GC.region ?_)))
 refine G.stepD (OD.loadAgg rfl ti24 rfl (i := 5) rfl (us := [.int .i64 (subRk cr cd x), v16]) rfl rfl) rfl rfl rfl ?_
 refine G.stepD (OD.move rfl rfl) rfl rfl rfl ?_
 refine G.step (OG.call [.agg #[.int .i64 (subRk cr cd x), v16], .int .i64 (1)] ent19 rfl rfl rfl rfl (by exact (heldCartan_m hs17 (Ent.ints (i := 0) rfl) (by omega) (by omega)))) rfl rfl rfl ?_
 rintro _ _ ⟨rfl, rfl⟩
 refine G.stepD (OD.assign rfl rfl) rfl rfl rfl ?_
 refine G.nil (GE.then_ (GC.seq (GC.seq (GC.region ?_))))
 refine G.stepD (OD.move rfl rfl) rfl rfl rfl ?_
 refine G.stepD (OD.eqv (OD.lss rfl rfl rfl) (congrArg Value.bool ((decide_eq_false (by omega)) : _ = false))) rfl rfl rfl ?_
 refine G.nil (GE.then_ (GC.condF rfl (GC.skip (GE.then_ (GC.seq (GC.seq (GC.region ?_)))))))
 refine G.stepD (OD.move rfl rfl) rfl rfl rfl ?_
 refine G.stepD (OD.move rfl rfl) rfl rfl rfl ?_
 refine G.stepD (OD.eqv (OD.neq rfl rfl rfl) (congrArg Value.bool ((bne_same _) : _ = false))) rfl rfl rfl ?_
 refine G.nil (GE.then_ (GC.condF rfl (GC.skip (GE.then_ (GC.seq (GC.region ?_))))))
 refine G.stepD (OD.loadAgg rfl ti30 rfl (i := 11) rfl (us := [.int .i64 (cr), vcd]) rfl rfl) rfl rfl rfl ?_
 refine G.step (OG.call [.agg #[.int .i64 (cr), vcd]] ent22 rfl rfl rfl rfl (by exact (toCartan_s scd (Ent.drop 12 ecd) (by omega)))) rfl rfl rfl ?_
 rintro _ _ ⟨v25, rfl, hs26, rfl⟩
 refine G.stepD (OD.move rfl rfl) rfl rfl rfl ?_
 refine G.step (OG.call [vx] ent27 rfl rfl rfl rfl (by exact (toIntS_s sx (Ent.drop 13 ex) (by omega)))) rfl rfl rfl ?_
 rintro v27 _ ⟨_, rfl, hs28, rfl⟩
 refine G.step (OG.call [.agg #[.int .i64 (cr), v25], v27] ent31 rfl rfl rfl rfl (by exact (subCartan_w hs26 (Ent.ints (i := 1) rfl) hs28 (Ent.ints (i := 0) rfl) (by omega) (by omega) ((Ent.drop 14 hg))))) rfl rfl rfl ?_
 rintro _ _ ⟨v29, rfl, hs30, rfl⟩
 refine G.stepD (OD.move rfl rfl) rfl rfl rfl ?_
 refine G.stepD (OD.extract rfl rfl rfl) rfl rfl rfl ?_
 refine G.stepD (OD.extract rfl rfl rfl) rfl rfl rfl ?_
 refine G.step (OG.alloc rfl ti24 (zs := [.int .i64 (0), .slice none 0 0]) rfl) rfl rfl rfl ?_
 rintro _ _ ⟨g31, rfl, rfl⟩
 refine G.stepD0 (OD.store rfl ti24 rfl rfl (us := [.int .i64 (subRk cr cd x), v29]) rfl rfl (allC rfl (allC (IsS.one hs30) rfl)) (i := 0) rfl rfl) rfl rfl ?_
 refine G.stepD (OD.assign rfl rfl) rfl rfl rfl ?_
 refine G.nil (GE.then_ (GC.seq (GC.seq (GC.region ?_))))
 refine G.stepD (OD.loadAgg rfl ti24 rfl (i := 0) rfl (us := [.int .i64 (subRk cr cd x), v29]) rfl rfl) rfl rfl rfl ?_
 refine G.stepD (OD.loadAgg rfl ti24 rfl (i := 11) rfl (us := [.int .i64 (subRk cr cd x), v8]) rfl rfl) rfl rfl rfl ?_
 refine G.step (OG.call [.agg #[.int .i64 (subRk cr cd x), v29], .agg #[.int .i64 (subRk cr cd x), v8]] ent17 rfl rfl rfl rfl (by exact (eqCartan_same hs30 (Ent.ints (i := 1) rfl) hs9 (Ent.ints (i := 12) rfl) (by omega)))) rfl rfl rfl ?_
 rintro _ _ ⟨rfl, rfl⟩
 refine G.stepD (OD.not rfl rfl) rfl rfl rfl ?_
 refine G.stepD (OD.move rfl rfl) rfl rfl rfl ?_
 refine G.stepGD (OD.move rfl rfl) rfl rfl rfl rfl rfl ?_
 refine G.stepGD (OD.move rfl rfl) rfl rfl rfl rfl rfl ?_
 refine G.stepGD (OD.eqv (OD.neqB bt4 rfl rfl rfl) (congrArg Value.bool (bneB_same _))) rfl rfl rfl rfl rfl ?_
 refine G.stepD (OD.pickF rfl rfl rfl) rfl rfl rfl ?_
 refine G.nil (GE.then_ (GC.condF rfl (GC.skip (GE.then_ (GC.seq (GC.region ?_))))))
 refine G.stepD (OD.assign rfl rfl) rfl rfl rfl ?_
 refine G.nil (GE.then_ (GC.seq (GC.region ?_)))
 refine G.stepD (OD.loadAgg rfl ti24 rfl (i := 9) rfl (us := [.int .i64 (subRk cr cd x), v16]) rfl rfl) rfl rfl rfl ?_
 refine G.stepD (OD.move rfl rfl) rfl rfl rfl ?_
 refine G.step (OG.call [.agg #[.int .i64 (subRk cr cd x), v16], .int .i64 (1)] ent19 rfl rfl rfl rfl (by exact (heldCartan_m hs17 (Ent.ints (i := 4) rfl) (by omega) (by omega)))) rfl rfl rfl ?_
 rintro _ _ ⟨rfl, rfl⟩
 refine G.stepD (OD.assign rfl rfl) rfl rfl rfl ?_
 refine G.nil (GE.then_ (GC.seq (GC.seq (GC.region ?_))))
 refine G.stepD (OD.move rfl rfl) rfl rfl rfl ?_
 refine G.stepD (OD.eqv (OD.lss rfl rfl rfl) (congrArg Value.bool ((decide_eq_false (by omega)) : _ = false))) rfl rfl rfl ?_
 refine G.nil (GE.then_ (GC.condF rfl (GC.skip (GE.then_ (GC.seq (GC.seq (GC.region ?_)))))))
 refine G.stepD (OD.move rfl rfl) rfl rfl rfl ?_
 refine G.stepD (OD.move rfl rfl) rfl rfl rfl ?_
 refine G.stepD (OD.eqv (OD.neq rfl rfl rfl) (congrArg Value.bool ((bne_same _) : _ = false))) rfl rfl rfl ?_
 refine G.nil (GE.then_ (GC.condF rfl (GC.skip (GE.then_ (GC.seq (GC.region ?_))))))
 refine G.stepD (OD.assign rfl rfl) rfl rfl rfl ?_
 refine G.nil (GE.then_ (GC.ret ?_))
 exact GE.body [] 16 (res1 rfl rfl) rfl (⟨rfl, rfl⟩)

end Go.Proofs.YtnebapjkmgebmaaDoor
