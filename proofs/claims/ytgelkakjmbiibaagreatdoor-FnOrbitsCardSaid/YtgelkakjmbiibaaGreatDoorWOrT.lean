/-
  OrbitOf: contracts by walks.
-/
import Derived.Test.YtgelkakjmbiibaaGreatDoorFct
import Derived.Test.YtgelkakjmbiibaaGreatDoorWOrI
import Derived.Test.YtgelkakjmbiibaaGreatDoorZ06
namespace Go.Proofs.YtgelkakjmbiibaaGreatDoor
set_option linter.unusedVariables false
set_option linter.unusedSimpArgs false
open Go.RowKit
theorem ent83 : ∀ us w, (callFunc 83 us).run Tryz.prog w = .ok (.enter 83 us) w := fun us w => by kernel_rfl
theorem ent84 : ∀ us w, (callFunc 84 us).run Tryz.prog w = .ok (.enter 84 us) w := fun us w => by kernel_rfl
theorem ent85 : ∀ us w, (callFunc 85 us).run Tryz.prog w = .ok (.enter 85 us) w := fun us w => by kernel_rfl
theorem ent87 : ∀ us w, (callFunc 87 us).run Tryz.prog w = .ok (.enter 87 us) w := fun us w => by kernel_rfl
theorem ent138 : ∀ us w, (callFunc 138 us).run Tryz.prog w = .ok (.enter 138 us) w := fun us w => by kernel_rfl
set_option maxRecDepth 100000 in
theorem orbitBad_w {W : World} {own : List Asn} {vy : Value} {y : List Int} {gc : Nat} {cr : Int} {vcd : Value} {cd : List Int}  (sy : IsS vy) (ey : Ent own fun w => Ints w vy y)   (scd : IsS vcd) (ecd : Ent own fun w => Ints w vcd cd)  (hl : y.length ≤ 1073741824) : Spec Tryz.prog 85 [vy, .pointer (some ⟨gc, 0, none⟩)] W (box gc 27 [.int .i64 (cr), vcd] :: own) (fun v ow => v = .bool (!(wtOk cr y)) ∧ ow = box gc 27 [.int .i64 (cr), vcd] :: own) := by
 refine Spec.enter Tryz.f85 _ Tryz.func85 rfl (n := 8) rfl rfl ?_
 refine GC.seq (GC.region ?_)
 refine G.stepD (OD.assign rfl rfl) rfl rfl rfl ?_
 refine G.nil (GE.then_ (GC.seq (GC.region ?_)))
 refine G.stepD (OD.loadAgg rfl ti27 rfl (i := 0) rfl (us := [.int .i64 (cr), vcd]) rfl rfl) rfl rfl rfl ?_
 refine G.stepD (OD.move rfl rfl) rfl rfl rfl ?_
 refine G.step (OG.call [.agg #[.int .i64 (cr), vcd], vy] ent81 rfl rfl rfl rfl (by exact (isWeight_w scd (Ent.drop 1 ecd) sy (Ent.drop 1 ey) (by omega)))) rfl rfl rfl ?_
 rintro _ _ ⟨rfl, rfl⟩
 refine G.stepD (OD.not rfl rfl) rfl rfl rfl ?_
 refine G.stepD (OD.assign rfl rfl) rfl rfl rfl ?_
 refine G.nil (GE.then_ (GC.ret ?_))
 exact GE.body [] 0 (res1 rfl rfl) rfl (⟨rfl, rfl⟩)
set_option maxRecDepth 100000 in
theorem indexFuncO_w {W : World} {own : List Asn} {vx : Value} {ux : List Value} {x : List (List Int)} {gc : Nat} {cr : Int} {vcd : Value} {cd : List Int}  (sx : IsS vx) (ex : Ent own fun w => Sl w vx x.length 1 ux) (mx : ∀ k, k < x.length → Ent own fun w => Ints w (ux.getD k undef) (x.getD k [])) (lx : ux.length = x.length) (ax : AllS ux)   (scd : IsS vcd) (ecd : Ent own fun w => Ints w vcd cd)  (hll : x.length ≤ 1073741824) (hle : ∀ k, k < x.length → (x.getD k []).length ≤ 1073741824) : Spec Tryz.prog 138 [vx, .func (.func 85) #[] #[.pointer (some ⟨gc, 0, none⟩)]] W (box gc 27 [.int .i64 (cr), vcd] :: own) (fun v ow => v = .int .i64 (posF (fun (y : List Int) => !(wtOk cr y)) x) ∧ ow = box gc 27 [.int .i64 (cr), vcd] :: own) := by
 refine Spec.enter Tryz.f138 _ Tryz.func138 rfl (n := 19) rfl rfl ?_
 refine GC.seq (GC.region ?_)
 refine G.stepD (OD.assign rfl rfl) rfl rfl rfl ?_
 refine G.nil (GE.then_ (GC.seq (GC.seq (GC.region ?_))))
 refine G.stepD (OD.move rfl rfl) rfl rfl rfl ?_
 refine G.stepD (OD.len rfl rfl et39 rfl (Ent.drop 1 ex)) rfl rfl rfl ?_
 refine G.stepD (OD.move rfl rfl) rfl rfl rfl ?_
 refine G.nil (GE.then_ (GC.block ?_))
 refine GC.loop (ι := Nat) (fun k => [(0, vx), (1, .func (.func 85) #[] #[.pointer (some ⟨gc, 0, none⟩)]), (7, .int .i64 ((x.length : Nat))), (8, .int .i64 ((k : Int)))]) (fun k => box gc 27 [.int .i64 (cr), vcd] :: own) (fun k => (k ≤ x.length) ∧ ((x.take k).any (fun (y : List Int) => !(wtOk cr y)) = false)) (fun k => x.length - k) 0 (⟨by omega, by simp⟩) ⟨rfl, rfl, rfl, rfl, trivial⟩ [] 0 rfl ?_
 rintro k ⟨hk, ht⟩
 refine GC.seq (GC.region ?_)
 refine G.stepD (OD.lss rfl rfl rfl) rfl rfl rfl ?_
 refine G.nil (GE.then_ (GC.seq ?_))
 refine GC.cond rfl (fun hc1 => ?_) (fun hc1 => ?_)
 replace hc1 := of_decide_eq_true hc1
 refine GC.skip (GE.then_ (GC.seq (GC.block (GC.seq (GC.region ?_)))))
 refine G.stepD (OD.move rfl rfl) rfl rfl rfl ?_
 refine G.stepD (OD.assign rfl rfl) rfl rfl rfl ?_
 refine G.nil (GE.then_ (GC.seq (GC.region ?_)))
 refine G.stepD (OD.move rfl rfl) rfl rfl rfl ?_
 refine G.stepD (OD.move rfl rfl) rfl rfl rfl ?_
 refine G.stepD (OD.move rfl rfl) rfl rfl rfl ?_
 refine G.stepD (OD.indexAddr rfl et39 rfl (Ent.drop 1 ex) rfl (by omega)) rfl rfl rfl ?_
 refine G.stepD (OD.loadElem rfl ti22 rfl (Ent.drop 1 ex) (by omega) rfl) rfl rfl rfl ?_
 refine G.step (OG.call [(ux.getD (k) undef), .pointer (some ⟨gc, 0, none⟩)] ent85 rfl rfl rfl rfl (by exact (orbitBad_w (ax.get (by omega)) ((mx (k) (by omega))) scd ecd (hle k (by omega))))) rfl rfl rfl ?_
 rintro _ _ ⟨rfl, rfl⟩
 refine G.nil (GE.then_ ?_)
 refine GC.cond rfl (fun hc2 => ?_) (fun hc2 => ?_)
 replace hc2 := eq_false_of_not hc2
 have hc2b : (fun (y : List Int) => !(wtOk cr y)) (x.getD k []) = true := by show (!(wtOk _ _)) = true; rw [hc2]; rfl
 refine GC.seq (GC.region ?_)
 refine G.stepD (OD.move rfl rfl) rfl rfl rfl ?_
 refine G.stepD (OD.assign rfl rfl) rfl rfl rfl ?_
 refine G.nil (GE.then_ (GC.ret (GE.blockR (GE.passR (GE.passR (GE.blockR (GE.passR ?_)))))))
 exact GE.body [] 0 (res1 rfl rfl) rfl (⟨congrArg (fun (a0 : Int) => (.int .i64 (a0) : Value)) (((posF_at (d := []) (by omega) ht (by assumption)).symm : ((k : Int) : Int) = posF (fun (y : List Int) => !(wtOk cr y)) x)), rfl⟩)
 replace hc2 := eq_true_of_not hc2
 have hc2b : (fun (y : List Int) => !(wtOk cr y)) (x.getD k []) = false := by show (!(wtOk _ _)) = false; rw [hc2]; rfl
 refine GC.skip (GE.blockN (GE.then_ (GC.region ?_)))
 refine G.stepD (OD.addI rfl rfl rfl (by omega)) rfl rfl rfl ?_
 refine G.stepD (OD.move rfl rfl) rfl rfl rfl ?_
 refine G.nil ?_
 exact GE.again (k + 1) (⟨by omega, any_take_succ (d := []) (by omega) ht (by assumption)⟩) (by first | omega | (dsimp only; omega)) ⟨rfl, rfl, rfl, rfl, trivial⟩ [] 0 rfl
 replace hc1 := of_decide_eq_false hc1
 refine GC.exit (GE.pass (GE.pass (GE.hit (GE.then_ (GC.seq (GC.region ?_))))))
 refine G.stepD (OD.assign rfl rfl) rfl rfl rfl ?_
 refine G.nil (GE.then_ (GC.ret ?_))
 exact GE.body [] 0 (res1 rfl rfl) rfl (⟨congrArg (fun (a0 : Int) => (.int .i64 (a0) : Value)) (((posF_none (any_take_all (by omega) ht)).symm : (-1 : Int) = posF (fun (y : List Int) => !(wtOk cr y)) x)), rfl⟩)
set_option maxRecDepth 100000 in
theorem containsFuncO_w {W : World} {own : List Asn} {vx : Value} {ux : List Value} {x : List (List Int)} {gc : Nat} {cr : Int} {vcd : Value} {cd : List Int}  (sx : IsS vx) (ex : Ent own fun w => Sl w vx x.length 1 ux) (mx : ∀ k, k < x.length → Ent own fun w => Ints w (ux.getD k undef) (x.getD k [])) (lx : ux.length = x.length) (ax : AllS ux)   (scd : IsS vcd) (ecd : Ent own fun w => Ints w vcd cd)  (hll : x.length ≤ 1073741824) (hle : ∀ k, k < x.length → (x.getD k []).length ≤ 1073741824) : Spec Tryz.prog 84 [vx, .func (.func 85) #[] #[.pointer (some ⟨gc, 0, none⟩)]] W (box gc 27 [.int .i64 (cr), vcd] :: own) (fun v ow => v = .bool (x.any (fun (y : List Int) => !(wtOk cr y))) ∧ ow = box gc 27 [.int .i64 (cr), vcd] :: own) := by
 refine Spec.enter Tryz.f84 _ Tryz.func84 rfl (n := 9) rfl rfl ?_
 refine GC.seq (GC.region ?_)
 refine G.stepD (OD.assign rfl rfl) rfl rfl rfl ?_
 refine G.nil (GE.then_ (GC.seq (GC.region ?_)))
 refine G.stepD (OD.move rfl rfl) rfl rfl rfl ?_
 refine G.stepD (OD.move rfl rfl) rfl rfl rfl ?_
 refine G.step (OG.call [vx, .func (.func 85) #[] #[.pointer (some ⟨gc, 0, none⟩)]] ent138 rfl rfl rfl rfl (by exact (indexFuncO_w sx ex (fun k hk => ((mx k hk))) lx ax scd ecd (hll) (hle)))) rfl rfl rfl ?_
 rintro _ _ ⟨rfl, rfl⟩
 refine G.stepD (OD.geq rfl rfl rfl) rfl rfl rfl ?_
 refine G.stepD (OD.assign rfl rfl) rfl rfl rfl ?_
 refine G.nil (GE.then_ (GC.ret ?_))
 exact GE.body [] 0 (res1 rfl rfl) rfl (⟨congrArg (fun (a0 : Bool) => (.bool (a0) : Value)) ((posF_ge : (decide (0 ≤ posF (fun (y : List Int) => !(wtOk cr y)) x) : Bool) = x.any (fun (y : List Int) => !(wtOk cr y)))), rfl⟩)
set_option maxRecDepth 100000 in
theorem orbitOf_w {W : World} {own : List Asn} {cr : Int} {vcd : Value} {cd : List Int} {vx : Value} {x : List Int}  (scd : IsS vcd) (ecd : Ent own fun w => Ints w vcd cd)   (sx : IsS vx) (ex : Ent own fun w => Ints w vx x)  (hl0 : cd.length ≤ 1073741824) (hl : x.length ≤ 1073741824) (h64 : All64 x) (hg : Ent own fun w => ∃ m, w.cell? ⟨Tryz.l146_ren.g 1, 0, none⟩ = some (.int .i64 m)) (htab : Ent own Pow10) : Spec Tryz.prog 30 [.agg #[.int .i64 (cr), vcd], vx] W own (fun v ow => ∃ (r0 : Value) (u0 : List Value), v = r0 ∧ IsS r0 ∧ AllS u0 ∧ u0.length = (orOf cr cd x).length ∧ ow = lst 22 r0 u0 :: many (ints 3) u0 (orOf cr cd x) :: own) := by
 refine Spec.enter Tryz.f30 _ Tryz.func30 rfl (n := 29) rfl rfl ?_
 refine GC.seq (GC.region ?_)
 refine G.step (OG.box (cs := [.int .i64 (cr), vcd]) rfl rfl rfl) rfl rfl rfl ?_
 rintro _ _ ⟨g1, rfl, rfl⟩
 refine G.stepD (OD.assign rfl rfl) rfl rfl rfl ?_
 refine G.nil (GE.then_ (GC.seq (GC.seq (GC.region ?_))))
 refine G.stepD (OD.loadAgg rfl ti27 rfl (i := 0) rfl (us := [.int .i64 (cr), vcd]) rfl rfl) rfl rfl rfl ?_
 refine G.step (OG.call [.agg #[.int .i64 (cr), vcd]] ent43 rfl rfl rfl rfl (by exact (isCartan_w scd (Ent.drop 1 ecd) (hl0) ((Ent.drop 1 hg))))) rfl rfl rfl ?_
 rintro _ _ ⟨rfl, rfl⟩
 refine G.stepD (OD.not rfl rfl) rfl rfl rfl ?_
 refine G.stepD (OD.move rfl rfl) rfl rfl rfl ?_
 rcases Bool.eq_false_or_eq_true (!((tyS cr cd).isSome)) with hg2 | hg2
 have hg2e := hg2
 refine G.at [] 0 (env' := [(0, .agg #[.int .i64 (cr), vcd]), (1, vx), (2, .pointer (some ⟨g1, 0, none⟩)), (4, .slice none 0 0), (6, .agg #[.int .i64 (cr), vcd]), (7, .bool ((tyS cr cd).isSome)), (8, .bool true), (9, .bool true)]) (⟨rfl, rfl, rfl, rfl, rfl, rfl, (congrArg (fun b => some (Value.bool b)) hg2e), (congrArg (fun b => some (Value.bool b)) hg2e), trivial⟩) rfl ?_
 replace hg2 := eq_false_of_not hg2
 refine G.skipG rfl rfl rfl rfl rfl rfl (G.skipG rfl rfl rfl rfl rfl rfl (G.skipG rfl rfl rfl rfl rfl rfl (G.skipG rfl rfl rfl rfl rfl rfl ?_)))
 refine G.stepD (OD.pickT rfl rfl rfl) rfl rfl rfl ?_
 refine G.nil (GE.then_ (GC.condT rfl (GC.seq (GC.region ?_))))
 refine G.stepD (OD.assign rfl rfl) rfl rfl rfl ?_
 refine G.nil (GE.then_ (GC.ret (GE.passR ?_)))
 refine GE.many0 (ints 3) ?_
 refine GE.nilLst 22 ?_
 exact GE.body [0, 0] 1 (res1 rfl rfl) rfl (⟨(.slice none 0 0), [], rfl, IsS.nil, AllS.nil, (by rw [orOf, hg2] <;> rfl), congrArg (fun (l0 : List (List Int)) => lst 22 (.slice none 0 0) [] :: many (ints 3) [] l0 :: own) ((by rw [orOf, hg2] <;> rfl : [] = orOf cr cd x))⟩)
 have hg2e := hg2
 refine G.at [] 0 (env' := [(0, .agg #[.int .i64 (cr), vcd]), (1, vx), (2, .pointer (some ⟨g1, 0, none⟩)), (4, .slice none 0 0), (6, .agg #[.int .i64 (cr), vcd]), (7, .bool ((tyS cr cd).isSome)), (8, .bool false), (9, .bool false)]) (⟨rfl, rfl, rfl, rfl, rfl, rfl, (congrArg (fun b => some (Value.bool b)) hg2e), (congrArg (fun b => some (Value.bool b)) hg2e), trivial⟩) rfl ?_
 replace hg2 := eq_true_of_not hg2
 refine G.stepGD (OD.loadAgg rfl ti27 rfl (i := 0) rfl (us := [.int .i64 (cr), vcd]) rfl rfl) rfl rfl rfl rfl rfl ?_
 refine G.stepGD (OD.move rfl rfl) rfl rfl rfl rfl rfl ?_
 refine G.stepG (OG.call [.agg #[.int .i64 (cr), vcd], vx] ent81 rfl rfl rfl rfl (by exact (isWeight_w scd (Ent.drop 1 ecd) sx (Ent.drop 1 ex) (by omega)))) rfl rfl rfl rfl rfl ?_
 rintro _ _ ⟨rfl, rfl⟩
 refine G.stepGD (OD.not rfl rfl) rfl rfl rfl rfl rfl ?_
 refine G.stepD (OD.pickF rfl rfl rfl) rfl rfl rfl ?_
 refine G.nil (GE.then_ ?_)
 refine GC.cond rfl (fun hc3 => ?_) (fun hc3 => ?_)
 replace hc3 := eq_false_of_not hc3
 refine GC.seq (GC.region ?_)
 refine G.stepD (OD.assign rfl rfl) rfl rfl rfl ?_
 refine G.nil (GE.then_ (GC.ret (GE.passR ?_)))
 refine GE.many0 (ints 3) ?_
 refine GE.nilLst 22 ?_
 exact GE.body [0, 0] 1 (res1 rfl rfl) rfl (⟨(.slice none 0 0), [], rfl, IsS.nil, AllS.nil, (by rw [orOf, hg2, hc3] <;> rfl), congrArg (fun (l0 : List (List Int)) => lst 22 (.slice none 0 0) [] :: many (ints 3) [] l0 :: own) ((by rw [orOf, hg2, hc3] <;> rfl : [] = orOf cr cd x))⟩)
 replace hc3 := eq_true_of_not hc3
 have hS := hg2
 have hwx := hc3
 have hcr4 := (tyS_ok hS).1
 have hxl := wtOk_len hwx
 have hoe : ∀ y ∈ oAll cr cd x, y.length ≤ 4 := fun y hy => by have h1 := oAll_ent hy; omega
 have hol := oAll_len cr cd x
 have ho1 : 0 < (oAll cr cd x).length := by have h1 := (oC_pre (n := cr) (d := cd) (f := 1300) (L := [x]) (k := 0)).len; exact h1
 refine GC.skip (GE.then_ (GC.seq (GC.region ?_)))
 refine G.stepD (OD.loadAgg rfl ti27 rfl (i := 0) rfl (us := [.int .i64 (cr), vcd]) rfl rfl) rfl rfl rfl ?_
 refine G.stepD (OD.move rfl rfl) rfl rfl rfl ?_
 refine G.step (OG.call [.agg #[.int .i64 (cr), vcd], vx] ent83 rfl rfl rfl rfl (by exact (orbit_w scd (Ent.drop 1 ecd) sx (Ent.drop 1 ex) ((tyS_ok hS).1) ((tyS_ok hS).2) (hxl) (h64) ((Ent.drop 1 htab))))) rfl rfl rfl ?_
 rintro v4 _ ⟨_, u5, rfl, hs6, hs7, hs8, rfl⟩
 refine G.stepD (OD.assign rfl rfl) rfl rfl rfl ?_
 refine G.nil (GE.then_ (GC.seq (GC.seq (GC.region ?_))))
 refine G.stepD (OD.move rfl rfl) rfl rfl rfl ?_
 refine G.stepD (OD.len rfl rfl et39 rfl (Ent.lst (i := 0) rfl)) rfl rfl rfl ?_
 refine G.stepD (OD.gtr rfl rfl rfl) rfl rfl rfl ?_
 refine G.stepD (OD.move rfl rfl) rfl rfl rfl ?_
 rcases Bool.eq_false_or_eq_true (decide ((1200 : Int) < (u5.length : Nat))) with hg9 | hg9
 have hg9e := hg9
 refine G.at [] 0 (env' := [(0, .agg #[.int .i64 (cr), vcd]), (1, vx), (2, .pointer (some ⟨g1, 0, none⟩)), (4, .slice none 0 0), (6, .agg #[.int .i64 (cr), vcd]), (7, .bool ((tyS cr cd).isSome)), (8, .bool false), (9, .bool false), (10, .agg #[.int .i64 (cr), vcd]), (11, vx), (12, .bool (wtOk cr x)), (13, .bool (!(wtOk cr x))), (14, .bool (!(wtOk cr x))), (15, .agg #[.int .i64 (cr), vcd]), (16, vx), (17, v4), (5, v4), (18, v4), (19, .int .i64 ((u5.length : Nat))), (20, .bool true), (21, .bool true)]) (⟨rfl, rfl, rfl, rfl, rfl, rfl, rfl, rfl, rfl, rfl, rfl, rfl, rfl, rfl, rfl, rfl, rfl, rfl, rfl, (congrArg (fun b => some (Value.bool b)) hg9e), (congrArg (fun b => some (Value.bool b)) hg9e), trivial⟩) rfl ?_
 replace hg9 := of_decide_eq_true hg9
 refine G.skipG rfl rfl rfl rfl rfl rfl (G.skipG rfl rfl rfl rfl rfl rfl (G.skipG rfl rfl rfl rfl rfl rfl ?_))
 refine G.stepD (OD.pickT rfl rfl rfl) rfl rfl rfl ?_
 refine G.nil (GE.then_ (GC.condT rfl (GC.seq (GC.region ?_))))
 refine G.stepD (OD.assign rfl rfl) rfl rfl rfl ?_
 refine G.nil (GE.then_ (GC.ret (GE.passR ?_)))
 refine GE.many0 (ints 3) ?_
 refine GE.nilLst 22 ?_
 exact GE.body [0, 0] 3 (res1 rfl rfl) rfl (⟨(.slice none 0 0), [], rfl, IsS.nil, AllS.nil, (by rw [orOf, hS, hwx, show orF cr cd x = [] from by rw [orF, orB, decide_eq_false (by omega)]; rfl] <;> rfl), congrArg (fun (l0 : List (List Int)) => lst 22 (.slice none 0 0) [] :: many (ints 3) [] l0 :: own) ((by rw [orOf, hS, hwx, show orF cr cd x = [] from by rw [orF, orB, decide_eq_false (by omega)]; rfl] <;> rfl : [] = orOf cr cd x))⟩)
 have hg9e := hg9
 refine G.at [] 0 (env' := [(0, .agg #[.int .i64 (cr), vcd]), (1, vx), (2, .pointer (some ⟨g1, 0, none⟩)), (4, .slice none 0 0), (6, .agg #[.int .i64 (cr), vcd]), (7, .bool ((tyS cr cd).isSome)), (8, .bool false), (9, .bool false), (10, .agg #[.int .i64 (cr), vcd]), (11, vx), (12, .bool (wtOk cr x)), (13, .bool (!(wtOk cr x))), (14, .bool (!(wtOk cr x))), (15, .agg #[.int .i64 (cr), vcd]), (16, vx), (17, v4), (5, v4), (18, v4), (19, .int .i64 ((u5.length : Nat))), (20, .bool false), (21, .bool false)]) (⟨rfl, rfl, rfl, rfl, rfl, rfl, rfl, rfl, rfl, rfl, rfl, rfl, rfl, rfl, rfl, rfl, rfl, rfl, rfl, (congrArg (fun b => some (Value.bool b)) hg9e), (congrArg (fun b => some (Value.bool b)) hg9e), trivial⟩) rfl ?_
 replace hg9 := of_decide_eq_false hg9
 refine G.stepGD (OD.move rfl rfl) rfl rfl rfl rfl rfl ?_
 refine G.stepGD (OD.makeFunc (first := []) (captured := [.tmp 2]) (us := []) (vs := [.pointer (some ⟨g1, 0, none⟩)]) rfl rfl rfl) rfl rfl rfl rfl rfl ?_
 refine G.at [2] 0 (env' := [(0, .agg #[.int .i64 (cr), vcd]), (1, vx), (2, .pointer (some ⟨g1, 0, none⟩)), (4, .slice none 0 0), (6, .agg #[.int .i64 (cr), vcd]), (7, .bool ((tyS cr cd).isSome)), (8, .bool false), (9, .bool false), (10, .agg #[.int .i64 (cr), vcd]), (11, vx), (12, .bool (wtOk cr x)), (13, .bool (!(wtOk cr x))), (14, .bool (!(wtOk cr x))), (15, .agg #[.int .i64 (cr), vcd]), (16, vx), (17, v4), (5, v4), (18, v4), (19, .int .i64 ((u5.length : Nat))), (20, .bool false), (21, .bool false), (22, v4), (23, .func (.func 85) #[] #[.pointer (some ⟨g1, 0, none⟩)])]) ⟨rfl, rfl, rfl, rfl, rfl, rfl, rfl, rfl, rfl, rfl, rfl, rfl, rfl, rfl, rfl, rfl, rfl, rfl, rfl, rfl, rfl, rfl, rfl, trivial⟩ (own' := box g1 27 [.int .i64 (cr), vcd] :: lst 22 v4 u5 :: many (ints 3) u5 (oAll cr cd x) :: own) rfl ?_
 refine G.stepG (OG.call [v4, .func (.func 85) #[] #[.pointer (some ⟨g1, 0, none⟩)]] ent84 rfl rfl rfl rfl (by exact (containsFuncO_w hs6 (Ent.len (Ent.lst (i := 0) rfl) (by omega)) (fun k hk => Ent.manyInts (i := 1) (k := k) rfl ⟨by omega, hk⟩) (by omega) hs7 scd (Ent.drop 2 ecd) (by omega) (getD_entO (b := 1073741824) (fun y hy => Nat.le_trans (hoe y hy) (by decide)))))) rfl rfl rfl rfl rfl ?_
 rintro _ _ ⟨rfl, rfl⟩
 refine G.stepD (OD.pickF rfl rfl rfl) rfl rfl rfl ?_
 refine G.nil (GE.then_ ?_)
 refine GC.cond rfl (fun hc10 => ?_) (fun hc10 => ?_)
 refine GC.seq (GC.region ?_)
 refine G.stepD (OD.assign rfl rfl) rfl rfl rfl ?_
 refine G.nil (GE.then_ (GC.ret (GE.passR ?_)))
 refine GE.many0 (ints 3) ?_
 refine GE.nilLst 22 ?_
 exact GE.body [0, 0] 3 (res1 rfl rfl) rfl (⟨(.slice none 0 0), [], rfl, IsS.nil, AllS.nil, (by rw [orOf, hS, hwx, show orF cr cd x = [] from by rw [orF, orB_any hc10]; rfl] <;> rfl), congrArg (fun (l0 : List (List Int)) => lst 22 (.slice none 0 0) [] :: many (ints 3) [] l0 :: own) ((by rw [orOf, hS, hwx, show orF cr cd x = [] from by rw [orF, orB_any hc10]; rfl] <;> rfl : [] = orOf cr cd x))⟩)
 refine GC.skip (GE.then_ (GC.seq (GC.region ?_)))
 refine G.stepD (OD.move rfl rfl) rfl rfl rfl ?_
 refine G.at [1, 1, 0] 0 (env' := [(0, .agg #[.int .i64 (cr), vcd]), (1, vx), (2, .pointer (some ⟨g1, 0, none⟩)), (4, .slice none 0 0), (6, .agg #[.int .i64 (cr), vcd]), (7, .bool ((tyS cr cd).isSome)), (8, .bool false), (9, .bool false), (10, .agg #[.int .i64 (cr), vcd]), (11, vx), (12, .bool (wtOk cr x)), (13, .bool (!(wtOk cr x))), (14, .bool (!(wtOk cr x))), (15, .agg #[.int .i64 (cr), vcd]), (16, vx), (17, v4), (5, v4), (18, v4), (19, .int .i64 ((u5.length : Nat))), (20, .bool false), (21, .bool false), (22, v4), (23, .func (.func 85) #[] #[.pointer (some ⟨g1, 0, none⟩)]), (24, .bool ((oAll cr cd x).any (fun (y : List Int) => !(wtOk cr y)))), (25, .bool ((oAll cr cd x).any (fun (y : List Int) => !(wtOk cr y)))), (26, v4)]) ⟨rfl, rfl, rfl, rfl, rfl, rfl, rfl, rfl, rfl, rfl, rfl, rfl, rfl, rfl, rfl, rfl, rfl, rfl, rfl, rfl, rfl, rfl, rfl, rfl, rfl, rfl, trivial⟩ (own' := lst 22 v4 u5 :: many (ints 3) u5 (oAll cr cd x) :: box g1 27 [.int .i64 (cr), vcd] :: own) rfl ?_
 refine G.step (OG.call [v4, .func (.func 87) #[] #[]] ent86 rfl rfl rfl rfl (by exact (sort_w strict_rcD tells_rcD ent87 hs6 hs7 hs8 (by omega) (by omega) (fun y hy => by have h1 := hoe y hy; omega)))) rfl rfl rfl ?_
 rintro _ _ ⟨ws, xs, rfl, haw, hlw, hpw, hsw, rfl⟩
 obtain rfl := srt_unique (oAll_nod cr cd x) hpw hsw
 have hfin : srtD (oAll cr cd x) = orOf cr cd x := by rw [orOf, hS, hwx, show orF cr cd x = srtD (oAll cr cd x) from by rw [orF, orB_all (by omega) hc10]; rfl] <;> rfl
 skip
 refine G.nil (GE.then_ (GC.seq (GC.region ?_)))
 refine G.stepD (OD.move rfl rfl) rfl rfl rfl ?_
 refine G.stepD (OD.assign rfl rfl) rfl rfl rfl ?_
 refine G.nil (GE.then_ (GC.ret ?_))
 exact GE.body [0, 0] 1 (res1 rfl rfl) rfl (⟨v4, ws, rfl, hs6, haw, (by rw [← hfin]; exact hlw), congrArg (fun (l0 : List (List Int)) => lst 22 v4 ws :: many (ints 3) ws l0 :: own) ((hfin : srtD (oAll cr cd x) = orOf cr cd x))⟩)
end Go.Proofs.YtgelkakjmbiibaaGreatDoor
