/-
  Inner products, as the statements tell: contracts by walks.
-/
import Derived.Test.YtbmnnbglipkidaaGreatDoorFct
import Derived.Test.YtbmnnbglipkidaaGreatDoorWLen
namespace Go.Proofs.YtbmnnbglipkidaaGreatDoor
set_option linter.unusedVariables false
set_option linter.unusedSimpArgs false
open Go.RowKit
theorem ent56 : ∀ us w, (callFunc 56 us).run Tryz.prog w = .ok (.enter 56 us) w := fun us w => by kernel_rfl
theorem ent57 : ∀ us w, (callFunc 57 us).run Tryz.prog w = .ok (.enter 57 us) w := fun us w => by kernel_rfl
set_option maxRecDepth 100000 in
theorem innerOf_w {W : World} {own : List Asn} {cr : Int} {vcd : Value} {cd : List Int} {vx : Value} {x : List Int} {vy : Value} {y : List Int}  (scd : IsS vcd) (ecd : Ent own fun w => Ints w vcd cd)   (sx : IsS vx) (ex : Ent own fun w => Ints w vx x)   (sy : IsS vy) (ey : Ent own fun w => Ints w vy y)  (hl0 : cd.length ≤ 1073741824) (hl : x.length ≤ 1073741824) (hly : y.length ≤ 1073741824) (hg : Ent own fun w => ∃ m, w.cell? ⟨Tryz.l146_ren.g 1, 0, none⟩ = some (.int .i64 m)) : Spec Tryz.prog 22 [.agg #[.int .i64 (cr), vcd], vx, vy] W own (fun v ow => v = .int .i64 (inOf cr cd x y) ∧ ow = own) := by
 refine Spec.enter Tryz.f22 _ Tryz.func22 rfl (n := 26) rfl rfl ?_
 refine Zs (Zr ?_)
 refine G.step (OG.box (cs := [.int .i64 (cr), vcd]) rfl rfl rfl) rfl rfl rfl ?_
 rintro _ _ ⟨g1, rfl, rfl⟩
 refine Za rfl rfl rfl rfl rfl ?_
 refine Zn (Zt (Zs (Zs (Zr ?_))))
 refine G.stepD (OD.loadAgg rfl ti27 rfl (i := 0) rfl (us := [.int .i64 (cr), vcd]) rfl rfl) rfl rfl rfl ?_
 refine G.step (OG.call [.agg #[.int .i64 (cr), vcd]] ent50 rfl rfl rfl rfl (by exact (isCartan_w scd (Ent.drop 1 ecd) (hl0) ((Ent.drop 1 hg))))) rfl rfl rfl ?_
 rintro _ _ ⟨rfl, rfl⟩
 refine G.stepD (OD.not rfl rfl) rfl rfl rfl ?_
 refine Zm rfl rfl rfl rfl rfl ?_
 rcases Bool.eq_false_or_eq_true (!((tyS cr cd).isSome)) with hg2 | hg2
 have hg2e := hg2
 refine G.at [] 0 (env' := [(0, .agg #[.int .i64 (cr), vcd]), (1, vx), (2, vy), (3, .pointer (some ⟨g1, 0, none⟩)), (6, .int .i64 (0)), (7, .agg #[.int .i64 (cr), vcd]), (8, .bool ((tyS cr cd).isSome)), (9, .bool true), (10, .bool true)]) (⟨rfl, rfl, rfl, rfl, rfl, rfl, rfl, (congrArg (fun b => some (Value.bool b)) hg2e), (congrArg (fun b => some (Value.bool b)) hg2e), trivial⟩) rfl ?_
 replace hg2 := eq_false_of_not hg2
 refine G.skipG rfl rfl rfl rfl rfl rfl (G.skipG rfl rfl rfl rfl rfl rfl (G.skipG rfl rfl rfl rfl rfl rfl (G.skipG rfl rfl rfl rfl rfl rfl ?_)))
 refine G.stepD (OD.pickT rfl rfl rfl) rfl rfl rfl ?_
 refine Zm rfl rfl rfl rfl rfl ?_
 refine G.skipG rfl rfl rfl rfl rfl rfl (G.skipG rfl rfl rfl rfl rfl rfl (G.skipG rfl rfl rfl rfl rfl rfl (G.skipG rfl rfl rfl rfl rfl rfl ?_)))
 refine G.stepD (OD.pickT rfl rfl rfl) rfl rfl rfl ?_
 refine Zn (Zt (GC.condT rfl (Zs (Zr ?_))))
 refine Za rfl rfl rfl rfl rfl ?_
 refine Zn (Zt (GC.ret (GE.passR ?_)))
 exact GE.body [] 1 (res1 rfl rfl) rfl (⟨congrArg (fun (a0 : Int) => (.int .i64 (a0) : Value)) ((by rw [inOf, hg2]; simp : (0 : Int) = inOf cr cd x y)), rfl⟩)
 have hg2e := hg2
 refine G.at [] 0 (env' := [(0, .agg #[.int .i64 (cr), vcd]), (1, vx), (2, vy), (3, .pointer (some ⟨g1, 0, none⟩)), (6, .int .i64 (0)), (7, .agg #[.int .i64 (cr), vcd]), (8, .bool ((tyS cr cd).isSome)), (9, .bool false), (10, .bool false)]) (⟨rfl, rfl, rfl, rfl, rfl, rfl, rfl, (congrArg (fun b => some (Value.bool b)) hg2e), (congrArg (fun b => some (Value.bool b)) hg2e), trivial⟩) rfl ?_
 replace hg2 := eq_true_of_not hg2
 refine G.stepGD (OD.loadAgg rfl ti27 rfl (i := 0) rfl (us := [.int .i64 (cr), vcd]) rfl rfl) rfl rfl rfl rfl rfl ?_
 refine G.stepGD (OD.move rfl rfl) rfl rfl rfl rfl rfl ?_
 refine G.stepG (OG.call [.agg #[.int .i64 (cr), vcd], vx] ent56 rfl rfl rfl rfl (by exact (isWeight_w scd (Ent.drop 1 ecd) sx (Ent.drop 1 ex) (by omega)))) rfl rfl rfl rfl rfl ?_
 rintro _ _ ⟨rfl, rfl⟩
 refine G.stepGD (OD.not rfl rfl) rfl rfl rfl rfl rfl ?_
 refine G.stepD (OD.pickF rfl rfl rfl) rfl rfl rfl ?_
 refine Zm rfl rfl rfl rfl rfl ?_
 rcases Bool.eq_false_or_eq_true (!(wtOk cr x)) with hg3 | hg3
 have hg3e := hg3
 refine G.at [] 0 (env' := [(0, .agg #[.int .i64 (cr), vcd]), (1, vx), (2, vy), (3, .pointer (some ⟨g1, 0, none⟩)), (6, .int .i64 (0)), (7, .agg #[.int .i64 (cr), vcd]), (8, .bool ((tyS cr cd).isSome)), (9, .bool false), (10, .bool false), (11, .agg #[.int .i64 (cr), vcd]), (12, vx), (13, .bool (wtOk cr x)), (14, .bool true), (15, .bool true), (16, .bool true)]) (⟨rfl, rfl, rfl, rfl, rfl, rfl, rfl, rfl, rfl, rfl, rfl, rfl, (congrArg (fun b => some (Value.bool b)) hg3e), (congrArg (fun b => some (Value.bool b)) hg3e), (congrArg (fun b => some (Value.bool b)) hg3e), trivial⟩) rfl ?_
 replace hg3 := eq_false_of_not hg3
 refine G.skipG rfl rfl rfl rfl rfl rfl (G.skipG rfl rfl rfl rfl rfl rfl (G.skipG rfl rfl rfl rfl rfl rfl (G.skipG rfl rfl rfl rfl rfl rfl ?_)))
 refine G.stepD (OD.pickT rfl rfl rfl) rfl rfl rfl ?_
 refine Zn (Zt (GC.condT rfl (Zs (Zr ?_))))
 refine Za rfl rfl rfl rfl rfl ?_
 refine Zn (Zt (GC.ret (GE.passR ?_)))
 exact GE.body [] 1 (res1 rfl rfl) rfl (⟨congrArg (fun (a0 : Int) => (.int .i64 (a0) : Value)) ((by rw [inOf, hg3]; simp : (0 : Int) = inOf cr cd x y)), rfl⟩)
 have hg3e := hg3
 refine G.at [] 0 (env' := [(0, .agg #[.int .i64 (cr), vcd]), (1, vx), (2, vy), (3, .pointer (some ⟨g1, 0, none⟩)), (6, .int .i64 (0)), (7, .agg #[.int .i64 (cr), vcd]), (8, .bool ((tyS cr cd).isSome)), (9, .bool false), (10, .bool false), (11, .agg #[.int .i64 (cr), vcd]), (12, vx), (13, .bool (wtOk cr x)), (14, .bool false), (15, .bool false), (16, .bool false)]) (⟨rfl, rfl, rfl, rfl, rfl, rfl, rfl, rfl, rfl, rfl, rfl, rfl, (congrArg (fun b => some (Value.bool b)) hg3e), (congrArg (fun b => some (Value.bool b)) hg3e), (congrArg (fun b => some (Value.bool b)) hg3e), trivial⟩) rfl ?_
 replace hg3 := eq_true_of_not hg3
 refine G.stepGD (OD.loadAgg rfl ti27 rfl (i := 0) rfl (us := [.int .i64 (cr), vcd]) rfl rfl) rfl rfl rfl rfl rfl ?_
 refine G.stepGD (OD.move rfl rfl) rfl rfl rfl rfl rfl ?_
 refine G.stepG (OG.call [.agg #[.int .i64 (cr), vcd], vy] ent56 rfl rfl rfl rfl (by exact (isWeight_w scd (Ent.drop 1 ecd) sy (Ent.drop 1 ey) (by omega)))) rfl rfl rfl rfl rfl ?_
 rintro _ _ ⟨rfl, rfl⟩
 refine G.stepGD (OD.not rfl rfl) rfl rfl rfl rfl rfl ?_
 refine G.stepD (OD.pickF rfl rfl rfl) rfl rfl rfl ?_
 refine Zn (Zt ?_)
 refine GC.cond rfl (fun hc4 => ?_) (fun hc4 => ?_)
 replace hc4 := eq_false_of_not hc4
 refine Zs (Zr ?_)
 refine Za rfl rfl rfl rfl rfl ?_
 refine Zn (Zt (GC.ret (GE.passR ?_)))
 exact GE.body [] 1 (res1 rfl rfl) rfl (⟨congrArg (fun (a0 : Int) => (.int .i64 (a0) : Value)) ((by rw [inOf, hc4]; simp : (0 : Int) = inOf cr cd x y)), rfl⟩)
 replace hc4 := eq_true_of_not hc4
 refine Zk (Zt (Zs (Zr ?_)))
 refine G.stepD (OD.loadAgg rfl ti27 rfl (i := 0) rfl (us := [.int .i64 (cr), vcd]) rfl rfl) rfl rfl rfl ?_
 refine Zm rfl rfl rfl rfl rfl ?_
 refine Zm rfl rfl rfl rfl rfl ?_
 refine G.step (OG.call [.agg #[.int .i64 (cr), vcd], vx, vy] ent57 rfl rfl rfl rfl (by exact (inner_w scd (Ent.drop 1 ecd) sx (Ent.drop 1 ex) sy (Ent.drop 1 ey) (hg2) (wtOk_len hg3) (wtOk_len hc4)))) rfl rfl rfl ?_
 rintro _ _ ⟨rfl, rfl⟩
 refine Za rfl rfl rfl rfl rfl ?_
 refine Zn (Zt (GC.ret ?_))
 exact GE.body [] 1 (res1 rfl rfl) rfl (⟨congrArg (fun (a0 : Int) => (.int .i64 (a0) : Value)) ((by rw [inOf, hg2, hg3, hc4]; rfl : (inF cr cd x y : Int) = inOf cr cd x y)), rfl⟩)
end Go.Proofs.YtbmnnbglipkidaaGreatDoor
