/-
  DominantOf: contracts and the law on it.
-/
import Derived.Test.YtgafcopihlmfpaaDoorWWey
import Derived.Test.YtgafcopihlmfpaaDoorIns
namespace Go.Proofs.YtgafcopihlmfpaaDoor
set_option linter.unusedVariables false
set_option linter.unusedSimpArgs false
open Go.RowKit

theorem ent37 : ∀ us w, (callFunc 37 us).run Tryd.prog w = .ok (.enter 37 us) w := fun us w => by kernel_rfl
theorem ent38 : ∀ us w, (callFunc 38 us).run Tryd.prog w = .ok (.enter 38 us) w := fun us w => by kernel_rfl
theorem ent78 : ∀ us w, (callFunc 78 us).run Tryd.prog w = .ok (.enter 78 us) w := fun us w => by kernel_rfl

set_option maxHeartbeats 4000000 in
set_option maxRecDepth 100000 in
theorem dominantOf_w {W : World} {own : List Asn} {cr : Int} {vcd : Value} {cd : List Int} {vx : Value} {x : List Int}  (scd : IsS vcd) (ecd : Ent own fun w => Ints w vcd cd)   (sx : IsS vx) (ex : Ent own fun w => Ints w vx x)  (hl0 : cd.length ≤ 1073741824) (hl : x.length ≤ 1073741824) (hg : Ent own fun w => ∃ m, w.cell? ⟨Tryd.l146_ren.g 1, 0, none⟩ = some (.int .i64 m)) : Spec Tryd.prog 38 [.agg #[.int .i64 (cr), vcd], vx] W own (fun v ow => ∃ (r0 : Value) (r1 : Value), v = .tuple #[r0, r1] ∧ IsS r0 ∧ IsS r1 ∧ ow = ints 3 r0 ((dmOf cr cd x).1) :: ints 3 r1 ((dmOf cr cd x).2) :: own) := by
 refine Spec.enter Tryd.f38 _ Tryd.func38 rfl (n := 39) rfl rfl ?_
 refine GC.seq (GC.region ?_)
 refine G.step (OG.box (cs := [.int .i64 (cr), vcd]) rfl rfl rfl) rfl rfl rfl ?_
 rintro _ _ ⟨g1, rfl, rfl⟩
 refine G.stepD (OD.assign rfl rfl) rfl rfl rfl ?_
 refine G.stepD (OD.assign rfl rfl) rfl rfl rfl ?_
 refine G.nil (GE.then_ (GC.seq (GC.seq (GC.region ?_))))
 refine G.stepD (OD.loadAgg rfl ti27 rfl (i := 0) rfl (us := [.int .i64 (cr), vcd]) rfl rfl) rfl rfl rfl ?_
 refine G.step (OG.call [.agg #[.int .i64 (cr), vcd]] ent54 rfl rfl rfl rfl (by exact (isCartan_w scd (Ent.drop 1 ecd) (hl0) ((Ent.drop 1 hg))))) rfl rfl rfl ?_
 rintro _ _ ⟨rfl, rfl⟩
 refine G.stepD (OD.not rfl rfl) rfl rfl rfl ?_
 refine G.stepD (OD.move rfl rfl) rfl rfl rfl ?_
 rcases Bool.eq_false_or_eq_true (!((tyS cr cd).isSome)) with hg2 | hg2
 have hg2e := hg2
 refine G.at [] 0 (env' := [(0, .agg #[.int .i64 (cr), vcd]), (1, vx), (2, .pointer (some ⟨g1, 0, none⟩)), (4, .slice none 0 0), (5, .slice none 0 0), (9, .agg #[.int .i64 (cr), vcd]), (10, .bool ((tyS cr cd).isSome)), (11, .bool true), (12, .bool true)]) (⟨rfl, rfl, rfl, rfl, rfl, rfl, rfl, (congrArg (fun b => some (Value.bool b)) hg2e), (congrArg (fun b => some (Value.bool b)) hg2e), trivial⟩) rfl ?_
 replace hg2 := eq_false_of_not hg2
 refine G.skipG rfl rfl rfl rfl rfl rfl (G.skipG rfl rfl rfl rfl rfl rfl (G.skipG rfl rfl rfl rfl rfl rfl (G.skipG rfl rfl rfl rfl rfl rfl ?_)))
 refine G.stepD (OD.pickT rfl rfl rfl) rfl rfl rfl ?_
 refine G.nil (GE.then_ (GC.condT rfl (GC.seq (GC.region ?_))))
 refine G.stepD (OD.assign rfl rfl) rfl rfl rfl ?_
 refine G.stepD (OD.assign rfl rfl) rfl rfl rfl ?_
 refine G.nil (GE.then_ (GC.ret (GE.passR ?_)))
 refine GE.nilInts 3 ?_
 refine GE.nilInts 3 ?_
 exact GE.body [0, 0] 1 (res2 rfl rfl rfl) rfl (⟨(.slice none 0 0), (.slice none 0 0), rfl, IsS.nil, IsS.nil, cong2 (fun (l0 : List Int) (l1 : List Int) => ints 3 (.slice none 0 0) l0 :: ints 3 (.slice none 0 0) l1 :: own) ((by rw [dmOf]; exact (rfl).trans (congrArg Prod.fst (show (([] : List Int), ([] : List Int)) = _ from (if_f1 hg2).symm)) : [] = (dmOf cr cd x).1)) ((by rw [dmOf]; exact (rfl).trans (congrArg Prod.snd (show (([] : List Int), ([] : List Int)) = _ from (if_f1 hg2).symm)) : [] = (dmOf cr cd x).2))⟩)
 have hg2e := hg2
 refine G.at [] 0 (env' := [(0, .agg #[.int .i64 (cr), vcd]), (1, vx), (2, .pointer (some ⟨g1, 0, none⟩)), (4, .slice none 0 0), (5, .slice none 0 0), (9, .agg #[.int .i64 (cr), vcd]), (10, .bool ((tyS cr cd).isSome)), (11, .bool false), (12, .bool false)]) (⟨rfl, rfl, rfl, rfl, rfl, rfl, rfl, (congrArg (fun b => some (Value.bool b)) hg2e), (congrArg (fun b => some (Value.bool b)) hg2e), trivial⟩) rfl ?_
 replace hg2 := eq_true_of_not hg2
 refine G.stepGD (OD.loadAgg rfl ti27 rfl (i := 0) rfl (us := [.int .i64 (cr), vcd]) rfl rfl) rfl rfl rfl rfl rfl ?_
 refine G.stepGD (OD.move rfl rfl) rfl rfl rfl rfl rfl ?_
 refine G.stepG (OG.call [.agg #[.int .i64 (cr), vcd], vx] ent55 rfl rfl rfl rfl (by exact (isWeight_w scd (Ent.drop 1 ecd) sx (Ent.drop 1 ex) (by first | omega | (rw [rfF_len]; omega))))) rfl rfl rfl rfl rfl ?_
 rintro _ _ ⟨rfl, rfl⟩
 refine G.stepGD (OD.not rfl rfl) rfl rfl rfl rfl rfl ?_
 refine G.stepD (OD.pickF rfl rfl rfl) rfl rfl rfl ?_
 refine G.nil (GE.then_ ?_)
 refine GC.cond rfl (fun hc3 => ?_) (fun hc3 => ?_)
 replace hc3 := eq_false_of_not hc3
 refine GC.seq (GC.region ?_)
 refine G.stepD (OD.assign rfl rfl) rfl rfl rfl ?_
 refine G.stepD (OD.assign rfl rfl) rfl rfl rfl ?_
 refine G.nil (GE.then_ (GC.ret (GE.passR ?_)))
 refine GE.nilInts 3 ?_
 refine GE.nilInts 3 ?_
 exact GE.body [0, 0] 1 (res2 rfl rfl rfl) rfl (⟨(.slice none 0 0), (.slice none 0 0), rfl, IsS.nil, IsS.nil, cong2 (fun (l0 : List Int) (l1 : List Int) => ints 3 (.slice none 0 0) l0 :: ints 3 (.slice none 0 0) l1 :: own) ((by rw [dmOf]; exact (rfl).trans (congrArg Prod.fst (show (([] : List Int), ([] : List Int)) = _ from (if_f2 hc3).symm)) : [] = (dmOf cr cd x).1)) ((by rw [dmOf]; exact (rfl).trans (congrArg Prod.snd (show (([] : List Int), ([] : List Int)) = _ from (if_f2 hc3).symm)) : [] = (dmOf cr cd x).2))⟩)
 replace hc3 := eq_true_of_not hc3
 have hc4 := (tyS_ok hg2).1
 refine GC.skip (GE.then_ (GC.seq (GC.region ?_)))
 refine G.stepD (OD.move rfl rfl) rfl rfl rfl ?_
 refine G.step (OG.call [vx] ent70 rfl rfl rfl rfl (by exact (clone_w sx (Ent.drop 1 ex) (by first | omega | (rw [rfF_len]; omega))))) rfl rfl rfl ?_
 rintro v4 _ ⟨_, rfl, hs5, rfl⟩
 refine G.stepD (OD.assign rfl rfl) rfl rfl rfl ?_
 refine G.nil (GE.then_ (GC.seq (GC.region ?_)))
 refine G.step (OG.buildInts (xs := []) (is := []) rfl et22 rfl rfl rfl rfl rfl) rfl rfl rfl ?_
 rintro v6 _ ⟨hs7, rfl⟩
 refine G.stepD (OD.assign rfl rfl) rfl rfl rfl ?_
 refine G.nil (GE.then_ (GC.block ?_))
 refine GC.loop (ι := Nat × List Int × List Int × Value × Value) (fun ⟨f, w, ws, v, u⟩ => [(2, .pointer (some ⟨g1, 0, none⟩)), (6, v), (7, u)]) (fun ⟨f, w, ws, v, u⟩ => ints 3 u ws :: ints 3 v w :: box g1 27 [.int .i64 (cr), vcd] :: own) (fun ⟨f, w, ws, v, u⟩ => (IsS v) ∧ (IsS u) ∧ (wtOk cr w = true) ∧ (domS cr cd f w ws = some ((dmF cr cd x).1, (dmF cr cd x).2)) ∧ (f + ws.length ≤ 800002)) (fun ⟨f, w, ws, v, u⟩ => f) (800002, x, [], v4, v6) (⟨hs5, hs7, hc3, domS_ok (phOk hg2) (by have := (tyS_ok hg2).1; omega) hc3, by simp⟩) ⟨rfl, rfl, rfl, trivial⟩ [] 0 rfl ?_
 rintro ⟨f, w, ws, v, u⟩ ⟨hv, hu, hwt, hd, hwf⟩
 have hwl := wtOk_len hwt
 refine GC.block (GC.seq (GC.region ?_))
 refine G.stepD (OD.move rfl rfl) rfl rfl rfl ?_
 refine G.step (OG.call [v, .func (.func 76) #[] #[]] ent75 rfl rfl rfl rfl (by exact (indexFuncD_w hv (Ent.ints (i := 1) rfl) (by first | omega | (rw [rfF_len]; omega))))) rfl rfl rfl ?_
 rintro _ _ ⟨rfl, rfl⟩
 refine G.stepD (OD.assign rfl rfl) rfl rfl rfl ?_
 refine G.nil (GE.then_ (GC.seq (GC.seq (GC.region ?_))))
 refine G.stepD (OD.move rfl rfl) rfl rfl rfl ?_
 refine G.stepD (OD.lss rfl rfl rfl) rfl rfl rfl ?_
 refine G.nil (GE.then_ ?_)
 refine GC.cond rfl (fun hc8 => ?_) (fun hc8 => ?_)
 replace hc8 := of_decide_eq_true hc8
 obtain ⟨hr1, hr2⟩ := domS_end hd hwt hc8
 refine GC.seq (GC.region ?_)
 refine G.stepD (OD.move rfl rfl) rfl rfl rfl ?_
 refine G.stepD (OD.move rfl rfl) rfl rfl rfl ?_
 refine G.stepD (OD.assign rfl rfl) rfl rfl rfl ?_
 refine G.stepD (OD.assign rfl rfl) rfl rfl rfl ?_
 refine G.nil (GE.then_ (GC.ret (GE.passR (GE.blockR (GE.passR (GE.blockR ?_))))))
 exact GE.body [1, 0] 1 (res2 rfl rfl rfl) rfl (⟨v, u, rfl, hv, hu, cong2 (fun (l0 : List Int) (l1 : List Int) => ints 3 v l0 :: ints 3 u l1 :: own) ((by rw [dmOf]; exact (hr1).trans (congrArg Prod.fst ((if_t hg2 hc3).symm)) : w = (dmOf cr cd x).1)) ((by rw [dmOf]; exact (hr2).trans (congrArg Prod.snd ((if_t hg2 hc3).symm)) : ws = (dmOf cr cd x).2))⟩)
 replace hc8 := of_decide_eq_false hc8
 obtain ⟨gg, hgg, hd2⟩ := domS_step hd hwt hc8
 have hfa : 0 ≤ posF (fun (y : Int) => decide (y < 0)) w ∧ (posF (fun (y : Int) => decide (y < 0)) w).toNat < w.length ∧ w.getD (posF (fun (y : Int) => decide (y < 0)) w).toNat 0 < 0 := fpos_at hc8
 refine GC.skip (GE.then_ (GC.seq (GC.region ?_)))
 refine G.stepD (OD.loadAgg rfl ti27 rfl (i := 2) rfl (us := [.int .i64 (cr), vcd]) rfl rfl) rfl rfl rfl ?_
 refine G.stepD (OD.move rfl rfl) rfl rfl rfl ?_
 refine G.stepD (OD.move rfl rfl) rfl rfl rfl ?_
 refine G.step (OG.call [.agg #[.int .i64 (cr), vcd], .int .i64 (posF (fun (y : Int) => decide (y < 0)) w), v] ent77 rfl rfl rfl rfl (by exact (reflectWeight_w scd (Ent.drop 3 ecd) hv (Ent.ints (i := 1) rfl) ((tyS_ok hg2).1) ((tyS_ok hg2).2) (by omega) (wtOk_len hwt)))) rfl rfl rfl ?_
 rintro v9 _ ⟨_, rfl, hs10, rfl⟩
 refine G.stepD (OD.assign rfl rfl) rfl rfl rfl ?_
 refine G.nil (GE.then_ (GC.seq (GC.region ?_)))
 refine G.stepD (OD.move rfl rfl) rfl rfl rfl ?_
 refine G.stepD (OD.move rfl rfl) rfl rfl rfl ?_
 refine G.step (OG.buildInts (xs := [.tmp 32]) (is := [posF (fun (y : Int) => decide (y < 0)) w]) rfl et22 rfl rfl rfl rfl rfl) rfl rfl rfl ?_
 rintro v11 _ ⟨hs12, rfl⟩
 refine G.at [2, 0] 0 (env' := [(2, .pointer (some ⟨g1, 0, none⟩)), (7, u), (21, v), (22, .int .i64 (posF (fun (y : Int) => decide (y < 0)) w)), (8, .int .i64 (posF (fun (y : Int) => decide (y < 0)) w)), (23, .int .i64 (posF (fun (y : Int) => decide (y < 0)) w)), (24, .bool (decide (posF (fun (y : Int) => decide (y < 0)) w < 0))), (27, .agg #[.int .i64 (cr), vcd]), (28, .int .i64 (posF (fun (y : Int) => decide (y < 0)) w)), (29, v), (30, v9), (6, v9), (31, u), (32, .int .i64 (posF (fun (y : Int) => decide (y < 0)) w)), (33, v11)]) ⟨rfl, rfl, rfl, rfl, rfl, rfl, rfl, rfl, rfl, rfl, rfl, rfl, rfl, rfl, rfl, trivial⟩ (own' := ints 3 u ws :: ints 3 v11 [posF (fun (y : Int) => decide (y < 0)) w] :: ints 3 v9 (rfF cr cd (posF (fun (y : Int) => decide (y < 0)) w) w) :: ints 3 v w :: box g1 27 [.int .i64 (cr), vcd] :: own) rfl ?_
 refine G.step (OG.call [u, .int .i64 (0), v11] ent78 rfl rfl rfl rfl (by exact (insert_w (x := ws) (a := posF (fun (y : Int) => decide (y < 0)) w) (by omega)))) rfl rfl rfl ?_
 rintro v13 _ ⟨_, rfl, hs14, rfl⟩
 refine G.stepD (OD.assign rfl rfl) rfl rfl rfl ?_
 refine G.nil (GE.then_ (GC.seq (GC.region ?_)))
 refine G.stepD (OD.loadAgg rfl ti27 rfl (i := 3) rfl (us := [.int .i64 (cr), vcd]) rfl rfl) rfl rfl rfl ?_
 refine G.stepD (OD.move rfl rfl) rfl rfl rfl ?_
 refine G.step (OG.call [.agg #[.int .i64 (cr), vcd], v9] ent55 rfl rfl rfl rfl (by exact (isWeight_w scd (Ent.drop 4 ecd) hs10 (Ent.ints (i := 1) rfl) (by first | omega | (rw [rfF_len]; omega))))) rfl rfl rfl ?_
 rintro _ _ ⟨rfl, rfl⟩
 refine G.stepD (OD.not rfl rfl) rfl rfl rfl ?_
 refine G.nil (GE.then_ ?_)
 refine GC.cond rfl (fun hc15 => ?_) (fun hc15 => ?_)
 replace hc15 := eq_false_of_not hc15
 refine GC.seq (GC.region ?_)
 refine G.stepD (OD.assign rfl rfl) rfl rfl rfl ?_
 refine G.stepD (OD.assign rfl rfl) rfl rfl rfl ?_
 refine G.nil (GE.then_ (GC.ret (GE.blockR (GE.passR (GE.blockR ?_)))))
 refine GE.nilInts 3 ?_
 refine GE.nilInts 3 ?_
 exact GE.body [0, 0] 4 (res2 rfl rfl rfl) rfl (⟨(.slice none 0 0), (.slice none 0 0), rfl, IsS.nil, IsS.nil, cong2 (fun (l0 : List Int) (l1 : List Int) => ints 3 (.slice none 0 0) l0 :: ints 3 (.slice none 0 0) l1 :: own) ((by rw [dmOf]; exact ((domS_bad hd2 hc15).1).trans (congrArg Prod.fst ((if_t hg2 hc3).symm)) : [] = (dmOf cr cd x).1)) ((by rw [dmOf]; exact ((domS_bad hd2 hc15).2).trans (congrArg Prod.snd ((if_t hg2 hc3).symm)) : [] = (dmOf cr cd x).2))⟩)
 replace hc15 := eq_true_of_not hc15
 refine GC.skip (GE.blockN ?_)
 exact GE.again (gg, rfF cr cd (posF (fun (y : Int) => decide (y < 0)) w) w, (posF (fun (y : Int) => decide (y < 0)) w) :: ws, v9, v13) (⟨hs10, hs14, hc15, hd2, by rw [List.length_cons]; omega⟩) (by first | omega | (dsimp only; omega)) ⟨rfl, rfl, rfl, trivial⟩ [0, 0, 1] 1 rfl

set_option maxHeartbeats 4000000 in
set_option maxRecDepth 100000 in
theorem specDominantOf_w {W : World} {own : List Asn} {cr : Int} {vcd : Value} {cd : List Int} {vx : Value} {x : List Int}  (scd : IsS vcd) (ecd : Ent own fun w => Ints w vcd cd)   (sx : IsS vx) (ex : Ent own fun w => Ints w vx x)  (hl0 : cd.length ≤ 1073741824) (hl : x.length ≤ 1073741824) : Spec Tryd.prog 37 [.agg #[.int .i64 (cr), vcd], vx] W own (fun v ow => ∃ (r0 : Value) (r1 : Value), v = .tuple #[r0, r1] ∧ IsS r0 ∧ IsS r1 ∧ ow = ints 3 r0 ((dmOf cr cd x).1) :: ints 3 r1 ((dmOf cr cd x).2) :: own) := by
 refine Spec.enter Tryd.f37 _ Tryd.func37 rfl (n := 49) rfl rfl ?_
 refine GC.seq (GC.region ?_)
 refine G.step (OG.box (cs := [.int .i64 (cr), vcd]) rfl rfl rfl) rfl rfl rfl ?_
 rintro _ _ ⟨g1, rfl, rfl⟩
 refine G.stepD (OD.assign rfl rfl) rfl rfl rfl ?_
 refine G.stepD (OD.assign rfl rfl) rfl rfl rfl ?_
 refine G.nil (GE.then_ (GC.seq (GC.seq (GC.region ?_))))
 refine G.stepD (OD.loadAgg rfl ti27 rfl (i := 0) rfl (us := [.int .i64 (cr), vcd]) rfl rfl) rfl rfl rfl ?_
 refine G.step (OG.call [.agg #[.int .i64 (cr), vcd]] ent51 rfl rfl rfl rfl (by exact (specIsCartan_w scd (Ent.drop 1 ecd) (hl0)))) rfl rfl rfl ?_
 rintro _ _ ⟨rfl, rfl⟩
 refine G.stepD (OD.not rfl rfl) rfl rfl rfl ?_
 refine G.stepD (OD.move rfl rfl) rfl rfl rfl ?_
 rcases Bool.eq_false_or_eq_true (!((tyS cr cd).isSome)) with hg2 | hg2
 have hg2e := hg2
 refine G.at [] 0 (env' := [(0, .agg #[.int .i64 (cr), vcd]), (1, vx), (2, .pointer (some ⟨g1, 0, none⟩)), (4, .slice none 0 0), (5, .slice none 0 0), (9, .agg #[.int .i64 (cr), vcd]), (10, .bool ((tyS cr cd).isSome)), (11, .bool true), (12, .bool true)]) (⟨rfl, rfl, rfl, rfl, rfl, rfl, rfl, (congrArg (fun b => some (Value.bool b)) hg2e), (congrArg (fun b => some (Value.bool b)) hg2e), trivial⟩) rfl ?_
 replace hg2 := eq_false_of_not hg2
 refine G.skipG rfl rfl rfl rfl rfl rfl (G.skipG rfl rfl rfl rfl rfl rfl (G.skipG rfl rfl rfl rfl rfl rfl (G.skipG rfl rfl rfl rfl rfl rfl ?_)))
 refine G.stepD (OD.pickT rfl rfl rfl) rfl rfl rfl ?_
 refine G.nil (GE.then_ (GC.condT rfl (GC.seq (GC.region ?_))))
 refine G.stepD (OD.assign rfl rfl) rfl rfl rfl ?_
 refine G.stepD (OD.assign rfl rfl) rfl rfl rfl ?_
 refine G.nil (GE.then_ (GC.ret (GE.passR ?_)))
 refine GE.nilInts 3 ?_
 refine GE.nilInts 3 ?_
 exact GE.body [0, 0] 1 (res2 rfl rfl rfl) rfl (⟨(.slice none 0 0), (.slice none 0 0), rfl, IsS.nil, IsS.nil, cong2 (fun (l0 : List Int) (l1 : List Int) => ints 3 (.slice none 0 0) l0 :: ints 3 (.slice none 0 0) l1 :: own) ((by rw [dmOf]; exact (rfl).trans (congrArg Prod.fst (show (([] : List Int), ([] : List Int)) = _ from (if_f1 hg2).symm)) : [] = (dmOf cr cd x).1)) ((by rw [dmOf]; exact (rfl).trans (congrArg Prod.snd (show (([] : List Int), ([] : List Int)) = _ from (if_f1 hg2).symm)) : [] = (dmOf cr cd x).2))⟩)
 have hg2e := hg2
 refine G.at [] 0 (env' := [(0, .agg #[.int .i64 (cr), vcd]), (1, vx), (2, .pointer (some ⟨g1, 0, none⟩)), (4, .slice none 0 0), (5, .slice none 0 0), (9, .agg #[.int .i64 (cr), vcd]), (10, .bool ((tyS cr cd).isSome)), (11, .bool false), (12, .bool false)]) (⟨rfl, rfl, rfl, rfl, rfl, rfl, rfl, (congrArg (fun b => some (Value.bool b)) hg2e), (congrArg (fun b => some (Value.bool b)) hg2e), trivial⟩) rfl ?_
 replace hg2 := eq_true_of_not hg2
 refine G.stepGD (OD.loadAgg rfl ti27 rfl (i := 0) rfl (us := [.int .i64 (cr), vcd]) rfl rfl) rfl rfl rfl rfl rfl ?_
 refine G.stepGD (OD.move rfl rfl) rfl rfl rfl rfl rfl ?_
 refine G.stepG (OG.call [.agg #[.int .i64 (cr), vcd], vx] ent72 rfl rfl rfl rfl (by exact (l5Lattice_w scd (Ent.drop 1 ecd) sx (Ent.drop 1 ex) (by first | omega | (rw [rfF_len]; omega))))) rfl rfl rfl rfl rfl ?_
 rintro _ _ ⟨rfl, rfl⟩
 refine G.stepGD (OD.not rfl rfl) rfl rfl rfl rfl rfl ?_
 refine G.stepD (OD.pickF rfl rfl rfl) rfl rfl rfl ?_
 refine G.nil (GE.then_ ?_)
 refine GC.cond rfl (fun hc3 => ?_) (fun hc3 => ?_)
 replace hc3 := eq_false_of_not hc3
 refine GC.seq (GC.region ?_)
 refine G.stepD (OD.assign rfl rfl) rfl rfl rfl ?_
 refine G.stepD (OD.assign rfl rfl) rfl rfl rfl ?_
 refine G.nil (GE.then_ (GC.ret (GE.passR ?_)))
 refine GE.nilInts 3 ?_
 refine GE.nilInts 3 ?_
 exact GE.body [0, 0] 1 (res2 rfl rfl rfl) rfl (⟨(.slice none 0 0), (.slice none 0 0), rfl, IsS.nil, IsS.nil, cong2 (fun (l0 : List Int) (l1 : List Int) => ints 3 (.slice none 0 0) l0 :: ints 3 (.slice none 0 0) l1 :: own) ((by rw [dmOf]; exact (rfl).trans (congrArg Prod.fst (show (([] : List Int), ([] : List Int)) = _ from (if_f2 hc3).symm)) : [] = (dmOf cr cd x).1)) ((by rw [dmOf]; exact (rfl).trans (congrArg Prod.snd (show (([] : List Int), ([] : List Int)) = _ from (if_f2 hc3).symm)) : [] = (dmOf cr cd x).2))⟩)
 replace hc3 := eq_true_of_not hc3
 have hc4 := (tyS_ok hg2).1
 refine GC.skip (GE.then_ (GC.seq (GC.region ?_)))
 refine G.step (OG.buildInts (xs := []) (is := []) rfl et22 rfl rfl rfl rfl rfl) rfl rfl rfl ?_
 rintro v4 _ ⟨hs5, rfl⟩
 refine G.stepD (OD.assign rfl rfl) rfl rfl rfl ?_
 refine G.nil (GE.then_ (GC.block ?_))
 have hbl := wtOk_len hc3
 refine GC.many0 (ints 3) ?_
 refine GC.at [1, 1, 0] 0 (env' := [(0, .agg #[.int .i64 (cr), vcd]), (1, vx), (2, .pointer (some ⟨g1, 0, none⟩)), (4, .slice none 0 0), (5, .slice none 0 0), (9, .agg #[.int .i64 (cr), vcd]), (10, .bool ((tyS cr cd).isSome)), (11, .bool false), (12, .bool false), (13, .agg #[.int .i64 (cr), vcd]), (14, vx), (15, .bool (wtOk cr x)), (16, .bool (!(wtOk cr x))), (17, .bool (!(wtOk cr x))), (18, v4), (6, v4)]) ⟨rfl, rfl, rfl, rfl, rfl, rfl, rfl, rfl, rfl, rfl, rfl, rfl, rfl, rfl, rfl, rfl, trivial⟩ (own' := ints 3 v4 [] :: box g1 27 [.int .i64 (cr), vcd] :: many (ints 3) [] [] :: own) rfl ?_
 refine GC.loop (ι := Nat × List Int × List Int × Value × Value × Asn) (fun ⟨f, w, ws, v, u, X⟩ => [(2, .pointer (some ⟨g1, 0, none⟩)), (1, v), (6, u)]) (fun ⟨f, w, ws, v, u, X⟩ => ints 3 u ws :: box g1 27 [.int .i64 (cr), vcd] :: X :: own) (fun ⟨f, w, ws, v, u, X⟩ => (IsS v) ∧ (Ent (X :: own) fun w_ => Ints w_ v w) ∧ (IsS u) ∧ ((w.length : Int) = cr) ∧ (domS cr cd f w ws = some ((dmF cr cd x).1, (dmF cr cd x).2)) ∧ (f + ws.length ≤ 800002)) (fun ⟨f, w, ws, v, u, X⟩ => f) (800002, x, [], vx, v4, (many (ints 3) [] [])) (⟨sx, Ent.drop 1 ex, hs5, hbl, domS_ok (phOk hg2) (by have := (tyS_ok hg2).1; omega) hc3, by simp⟩) ⟨rfl, rfl, rfl, trivial⟩ [] 0 rfl ?_
 rintro ⟨f, w, ws, v, u, X⟩ ⟨hv, hE, hu, hwl, hd, hwf⟩
 refine GC.block (GC.seq (GC.seq (GC.region ?_)))
 refine G.stepD (OD.loadAgg rfl ti27 rfl (i := 1) rfl (us := [.int .i64 (cr), vcd]) rfl rfl) rfl rfl rfl ?_
 refine G.stepD (OD.move rfl rfl) rfl rfl rfl ?_
 refine G.step (OG.call [.agg #[.int .i64 (cr), vcd], v] ent72 rfl rfl rfl rfl (by exact (l5Lattice_w scd (Ent.drop 3 ecd) hv (Ent.drop 2 hE) (by first | omega | (rw [rfF_len]; omega))))) rfl rfl rfl ?_
 rintro _ _ ⟨rfl, rfl⟩
 refine G.stepD (OD.not rfl rfl) rfl rfl rfl ?_
 refine G.nil (GE.then_ ?_)
 refine GC.cond rfl (fun hc6 => ?_) (fun hc6 => ?_)
 replace hc6 := eq_false_of_not hc6
 refine GC.seq (GC.region ?_)
 refine G.stepD (OD.assign rfl rfl) rfl rfl rfl ?_
 refine G.stepD (OD.assign rfl rfl) rfl rfl rfl ?_
 refine G.nil (GE.then_ (GC.ret (GE.passR (GE.blockR (GE.passR (GE.blockR ?_))))))
 refine GE.nilInts 3 ?_
 refine GE.nilInts 3 ?_
 exact GE.body [0, 0] 3 (res2 rfl rfl rfl) rfl (⟨(.slice none 0 0), (.slice none 0 0), rfl, IsS.nil, IsS.nil, cong2 (fun (l0 : List Int) (l1 : List Int) => ints 3 (.slice none 0 0) l0 :: ints 3 (.slice none 0 0) l1 :: own) ((by rw [dmOf]; exact ((domS_bad hd hc6).1).trans (congrArg Prod.fst ((if_t hg2 hc3).symm)) : [] = (dmOf cr cd x).1)) ((by rw [dmOf]; exact ((domS_bad hd hc6).2).trans (congrArg Prod.snd ((if_t hg2 hc3).symm)) : [] = (dmOf cr cd x).2))⟩)
 replace hc6 := eq_true_of_not hc6
 refine GC.skip (GE.then_ (GC.seq (GC.region ?_)))
 refine G.stepD (OD.assign rfl rfl) rfl rfl rfl ?_
 refine G.nil (GE.then_ (GC.seq (GC.seq (GC.region ?_))))
 refine G.stepD (OD.fieldAddr rfl rfl fa27_0) rfl rfl rfl ?_
 refine G.stepD (OD.load rfl ti3 rfl (i := 1) rfl rfl) rfl rfl rfl ?_
 refine G.stepD (OD.subI rfl rfl rfl (by omega)) rfl rfl rfl ?_
 refine G.stepD (OD.assign rfl rfl) rfl rfl rfl ?_
 refine G.nil (GE.then_ (GC.block ?_))
 refine GC.loop (ι := Nat × Int) (fun ⟨q, a⟩ => [(2, .pointer (some ⟨g1, 0, none⟩)), (1, v), (6, u), (7, .int .i64 (a)), (8, .int .i64 ((q : Int) - 1))]) (fun ⟨q, a⟩ => ints 3 u ws :: box g1 27 [.int .i64 (cr), vcd] :: X :: own) (fun ⟨q, a⟩ => (q ≤ w.length) ∧ (a = lneg w q)) (fun ⟨q, a⟩ => q) (w.length, -1) (⟨by omega, (lneg_end w).symm⟩) ⟨rfl, rfl, rfl, rfl, int_eq (by omega), trivial⟩ [] 0 rfl ?_
 rintro ⟨q, a⟩ ⟨hq, ha⟩
 refine GC.seq (GC.seq (GC.region ?_))
 refine G.stepD (OD.move rfl rfl) rfl rfl rfl ?_
 refine G.stepD (OD.geq rfl rfl rfl) rfl rfl rfl ?_
 refine G.nil (GE.then_ ?_)
 refine GC.cond rfl (fun hc7 => ?_) (fun hc7 => ?_)
 replace hc7 := of_decide_eq_true hc7
 have hqe : ((q : Int) - 1).toNat = q - 1 := by omega
 refine GC.skip (GE.then_ (GC.seq (GC.block (GC.seq (GC.region ?_)))))
 refine G.stepD (OD.move rfl rfl) rfl rfl rfl ?_
 refine G.stepD (OD.move rfl rfl) rfl rfl rfl ?_
 refine G.stepD (OD.indexAddr rfl et22 rfl (Ent.drop 2 hE) rfl (by omega)) rfl rfl rfl ?_
 refine G.stepD (OD.loadInt rfl ti3 rfl (Ent.drop 2 hE) (by omega)) rfl rfl rfl ?_
 refine G.stepD (OD.lss rfl rfl rfl) rfl rfl rfl ?_
 refine G.nil (GE.then_ ?_)
 refine GC.cond rfl (fun hc8 => ?_) (fun hc8 => ?_)
 replace hc8 := of_decide_eq_true hc8
 refine GC.region ?_
 refine G.stepD (OD.move rfl rfl) rfl rfl rfl ?_
 refine G.stepD (OD.assign rfl rfl) rfl rfl rfl ?_
 refine G.nil (GE.blockN (GE.then_ (GC.region ?_)))
 refine G.stepD (OD.move rfl rfl) rfl rfl rfl ?_
 refine G.stepD (OD.subI rfl rfl rfl (by omega)) rfl rfl rfl ?_
 refine G.stepD (OD.assign rfl rfl) rfl rfl rfl ?_
 refine G.nil ?_
 exact GE.again (q - 1, (q : Int) - 1) (⟨by omega, by rw [lneg_yes (q := q - 1) (by omega) (by rw [← hqe]; exact hc8)]; omega⟩) (by first | omega | (dsimp only; omega)) ⟨rfl, rfl, rfl, rfl, int_eq (by omega), trivial⟩ [] 0 rfl
 replace hc8 := of_decide_eq_false hc8
 refine GC.skip (GE.blockN (GE.then_ (GC.region ?_)))
 refine G.stepD (OD.move rfl rfl) rfl rfl rfl ?_
 refine G.stepD (OD.subI rfl rfl rfl (by omega)) rfl rfl rfl ?_
 refine G.stepD (OD.assign rfl rfl) rfl rfl rfl ?_
 refine G.nil ?_
 exact GE.again (q - 1, a) (⟨by omega, by rw [ha, lneg_no (q := q - 1) (by omega) (by rw [← hqe]; exact hc8), show q - 1 + 1 = q by omega]⟩) (by first | omega | (dsimp only; omega)) ⟨rfl, rfl, rfl, rfl, int_eq (by omega), trivial⟩ [] 0 rfl
 replace hc7 := of_decide_eq_false hc7
 have haf : a = posF (fun (y : Int) => decide (y < 0)) w := by rw [ha, show q = 0 by omega]; exact lneg_zero w
 refine GC.exit (GE.pass (GE.pass (GE.hit (GE.then_ (GC.seq (GC.seq (GC.region ?_)))))))
 refine G.stepD (OD.move rfl rfl) rfl rfl rfl ?_
 refine G.stepD (OD.lss rfl rfl rfl) rfl rfl rfl ?_
 refine G.nil (GE.then_ ?_)
 refine GC.cond rfl (fun hc9 => ?_) (fun hc9 => ?_)
 replace hc9 := of_decide_eq_true hc9
 obtain ⟨hr1, hr2⟩ := domS_end hd hc6 (show fpos w < 0 by rw [haf] at hc9; exact hc9)
 refine GC.seq (GC.region ?_)
 refine G.stepD (OD.move rfl rfl) rfl rfl rfl ?_
 refine G.step (OG.call [v] ent73 rfl rfl rfl rfl (by exact (l1Ints_w hv (Ent.drop 2 hE) (by first | omega | (rw [rfF_len]; omega))))) rfl rfl rfl ?_
 rintro v10 _ ⟨_, rfl, hs11, rfl⟩
 refine G.stepD (OD.move rfl rfl) rfl rfl rfl ?_
 refine G.stepD (OD.assign rfl rfl) rfl rfl rfl ?_
 refine G.stepD (OD.assign rfl rfl) rfl rfl rfl ?_
 refine G.nil (GE.then_ (GC.ret (GE.passR (GE.blockR (GE.passR (GE.blockR ?_))))))
 exact GE.body [0, 0] 2 (res2 rfl rfl rfl) rfl (⟨v10, u, rfl, hs11, hu, cong2 (fun (l0 : List Int) (l1 : List Int) => ints 3 v10 l0 :: ints 3 u l1 :: own) ((by rw [dmOf]; exact (hr1).trans (congrArg Prod.fst ((if_t hg2 hc3).symm)) : w = (dmOf cr cd x).1)) ((by rw [dmOf]; exact (hr2).trans (congrArg Prod.snd ((if_t hg2 hc3).symm)) : ws = (dmOf cr cd x).2))⟩)
 replace hc9 := of_decide_eq_false hc9
 have hnf : ¬ fpos w < 0 := by rw [haf] at hc9; exact hc9
 obtain ⟨gg, hgg, hd2⟩ := domS_step hd hc6 hnf
 have hfa : 0 ≤ posF (fun (y : Int) => decide (y < 0)) w ∧ (posF (fun (y : Int) => decide (y < 0)) w).toNat < w.length ∧ w.getD (posF (fun (y : Int) => decide (y < 0)) w).toNat 0 < 0 := fpos_at hnf
 refine GC.skip (GE.then_ (GC.seq (GC.region ?_)))
 refine G.stepD (OD.move rfl rfl) rfl rfl rfl ?_
 refine G.step (OG.buildInts (xs := [.tmp 41]) (is := [a]) rfl et22 rfl rfl rfl rfl rfl) rfl rfl rfl ?_
 rintro v12 _ ⟨hs13, rfl⟩
 refine G.stepD (OD.move rfl rfl) rfl rfl rfl ?_
 refine G.step (OG.appendInts 0 rfl rfl et22 rfl rfl rfl (Ent.ints (i := 1) rfl) (by first | omega | (simp; omega))) rfl rfl rfl ?_
 rintro v14 _ ⟨hs15, rfl⟩
 refine G.stepD (OD.assign rfl rfl) rfl rfl rfl ?_
 refine G.nil (GE.then_ (GC.region ?_))
 refine G.stepD (OD.loadAgg rfl ti27 rfl (i := 2) rfl (us := [.int .i64 (cr), vcd]) rfl rfl) rfl rfl rfl ?_
 refine G.stepD (OD.move rfl rfl) rfl rfl rfl ?_
 refine G.stepD (OD.move rfl rfl) rfl rfl rfl ?_
 refine G.step (OG.call [.agg #[.int .i64 (cr), vcd], .int .i64 (a), v] ent74 rfl rfl rfl rfl (by exact (l6Reflect_w scd (Ent.drop 4 ecd) hv (Ent.drop 3 hE) ((tyS_ok hg2).1) ((tyS_ok hg2).2) (by omega) (wtOk_len hc6)))) rfl rfl rfl ?_
 rintro v16 _ ⟨_, rfl, hs17, rfl⟩
 refine G.stepD (OD.assign rfl rfl) rfl rfl rfl ?_
 refine G.nil (GE.blockN ?_)
 exact GE.again (gg, rfF cr cd a w, [a] ++ ws, v16, v14, (ints 3 v16 (rfF cr cd a w))) (⟨hs17, (Ent.ints (i := 0) rfl), hs15, by rw [rfF_len]; exact hwl, by rw [haf]; exact hd2, by rw [List.length_append, List.length_singleton]; omega⟩) (by first | omega | (dsimp only; omega)) ⟨rfl, rfl, rfl, trivial⟩ [1, 2, 0] 2 rfl

set_option maxHeartbeats 4000000 in
set_option maxRecDepth 100000 in
theorem lawDominantOf {W : World} {own : List Asn} {cr : Int} {vcd : Value} {cd : List Int} {vx : Value} {x : List Int}  (scd : IsS vcd) (ecd : Ent own fun w => Ints w vcd cd)   (sx : IsS vx) (ex : Ent own fun w => Ints w vx x)  (hcd : cd.length ≤ 9223372036854775807) (hx : x.length ≤ 9223372036854775807) (hg : Ent own fun w => ∃ m, w.cell? ⟨Tryd.l146_ren.g 1, 0, none⟩ = some (.int .i64 m)) : Spec Tryd.prog 10 [.agg #[.int .i64 (cr), vcd], vx] W own (fun v ow => v = .bool (true) ∧ ow = own) := by
 have hrl := dmOf_len cr cd x
 refine Spec.enter Tryd.f10 _ Tryd.func10 rfl (n := 133) rfl rfl ?_
 refine GC.seq (GC.region ?_)
 refine G.step (OG.box (cs := [.int .i64 (cr), vcd]) rfl rfl rfl) rfl rfl rfl ?_
 rintro _ _ ⟨g1, rfl, rfl⟩
 refine G.stepD (OD.assign rfl rfl) rfl rfl rfl ?_
 refine G.nil (GE.then_ (GC.seq (GC.seq (GC.region ?_))))
 refine G.stepD (OD.move rfl rfl) rfl rfl rfl ?_
 refine G.stepD (OD.len rfl rfl et22 rfl (Ent.drop 1 ex)) rfl rfl rfl ?_
 refine G.stepD (OD.gtr rfl rfl rfl) rfl rfl rfl ?_
 refine G.nil (GE.then_ ?_)
 refine GC.cond rfl (fun hc2 => ?_) (fun hc2 => ?_)
 replace hc2 := of_decide_eq_true hc2
 refine GC.seq (GC.region ?_)
 refine G.stepD (OD.assign rfl rfl) rfl rfl rfl ?_
 refine G.nil (GE.then_ (GC.ret (GE.passR ?_)))
 exact GE.body [] 1 (res1 rfl rfl) rfl (⟨rfl, rfl⟩)
 replace hc2 := of_decide_eq_false hc2
 refine GC.skip (GE.then_ (GC.seq (GC.region ?_)))
 refine G.stepD (OD.assign rfl rfl) rfl rfl rfl ?_
 refine G.nil (GE.then_ (GC.seq (GC.region ?_)))
 refine G.stepD (OD.loadAgg rfl ti24 rfl (i := 0) rfl (us := [.int .i64 (cr), vcd]) rfl rfl) rfl rfl rfl ?_
 refine G.stepD (OD.move rfl rfl) rfl rfl rfl ?_
 refine G.step (OG.call [.agg #[.int .i64 (cr), vcd], .int .i64 (1048576)] ent12 rfl rfl rfl rfl (by exact (szCartan_s scd (Ent.drop 1 ecd) (by omega) (by omega)))) rfl rfl rfl ?_
 rintro _ _ ⟨rfl, rfl⟩
 refine G.stepD (OD.assign rfl rfl) rfl rfl rfl ?_
 refine G.nil (GE.then_ (GC.seq (GC.seq (GC.region ?_))))
 refine G.stepD (OD.move rfl rfl) rfl rfl rfl ?_
 refine G.stepD (OD.lss rfl rfl rfl) rfl rfl rfl ?_
 refine G.nil (GE.then_ ?_)
 refine GC.cond rfl (fun hc3 => ?_) (fun hc3 => ?_)
 replace hc3 := of_decide_eq_true hc3
 refine GC.seq (GC.region ?_)
 refine G.stepD (OD.assign rfl rfl) rfl rfl rfl ?_
 refine G.nil (GE.then_ (GC.ret (GE.passR ?_)))
 exact GE.body [] 1 (res1 rfl rfl) rfl (⟨rfl, rfl⟩)
 replace hc3 := of_decide_eq_false hc3
 have hc3z := szG_ok hc3
 refine GC.skip (GE.then_ (GC.seq (GC.region ?_)))
 refine G.stepD (OD.loadAgg rfl ti24 rfl (i := 0) rfl (us := [.int .i64 (cr), vcd]) rfl rfl) rfl rfl rfl ?_
 refine G.step (OG.call [.agg #[.int .i64 (cr), vcd]] ent14 rfl rfl rfl rfl (by exact (toCartan_s scd (Ent.drop 1 ecd) (by omega)))) rfl rfl rfl ?_
 rintro _ _ ⟨v4, rfl, hs5, rfl⟩
 refine G.stepD (OD.move rfl rfl) rfl rfl rfl ?_
 refine G.step (OG.call [vx] ent15 rfl rfl rfl rfl (by exact (toIntS_s sx (Ent.drop 2 ex) (by omega)))) rfl rfl rfl ?_
 rintro v6 _ ⟨_, rfl, hs7, rfl⟩
 refine G.step (OG.call [.agg #[.int .i64 (cr), v4], v6] ent37 rfl rfl rfl rfl (by exact (specDominantOf_w hs5 (Ent.ints (i := 1) rfl) hs7 (Ent.ints (i := 0) rfl) (by omega) (by omega)))) rfl rfl rfl ?_
 rintro _ _ ⟨v8, v10, rfl, hs9, hs11, rfl⟩
 refine G.stepD (OD.move rfl rfl) rfl rfl rfl ?_
 refine G.stepD (OD.extract rfl rfl rfl) rfl rfl rfl ?_
 refine G.stepD (OD.extract rfl rfl rfl) rfl rfl rfl ?_
 refine G.stepD (OD.assign rfl rfl) rfl rfl rfl ?_
 refine G.stepD (OD.assign rfl rfl) rfl rfl rfl ?_
 refine G.nil (GE.then_ (GC.seq (GC.region ?_)))
 refine G.stepD (OD.loadAgg rfl ti24 rfl (i := 4) rfl (us := [.int .i64 (cr), vcd]) rfl rfl) rfl rfl rfl ?_
 refine G.step (OG.call [.agg #[.int .i64 (cr), vcd]] ent14 rfl rfl rfl rfl (by exact (toCartan_s scd (Ent.drop 5 ecd) (by omega)))) rfl rfl rfl ?_
 rintro _ _ ⟨v12, rfl, hs13, rfl⟩
 refine G.step (OG.alloc rfl ti27 (zs := [.int .i64 (0), .slice none 0 0]) rfl) rfl rfl rfl ?_
 rintro _ _ ⟨g14, rfl, rfl⟩
 refine G.stepD0 (OD.store rfl ti27 rfl rfl (us := [.int .i64 (cr), v12]) rfl rfl (allC rfl (allC (IsS.one hs13) rfl)) (i := 0) rfl rfl) rfl rfl ?_
 refine G.nil (GE.then_ (GC.seq (GC.region ?_)))
 refine G.stepD (OD.move rfl rfl) rfl rfl rfl ?_
 refine G.step (OG.call [vx] ent15 rfl rfl rfl rfl (by exact (toIntS_s sx (Ent.drop 7 ex) (by omega)))) rfl rfl rfl ?_
 rintro v15 _ ⟨_, rfl, hs16, rfl⟩
 refine G.stepD (OD.assign rfl rfl) rfl rfl rfl ?_
 refine G.nil (GE.then_ (GC.seq (GC.region ?_)))
 refine G.stepD (OD.loadAgg rfl ti27 rfl (i := 1) rfl (us := [.int .i64 (cr), v12]) rfl rfl) rfl rfl rfl ?_
 refine G.stepD (OD.move rfl rfl) rfl rfl rfl ?_
 refine G.step (OG.call [.agg #[.int .i64 (cr), v12], v15] ent38 rfl rfl rfl rfl (by exact (dominantOf_w hs13 (Ent.ints (i := 2) rfl) hs16 (Ent.ints (i := 0) rfl) (by omega) (by omega) ((Ent.drop 8 hg))))) rfl rfl rfl ?_
 rintro _ _ ⟨v17, v19, rfl, hs18, hs20, rfl⟩
 refine G.stepD (OD.move rfl rfl) rfl rfl rfl ?_
 refine G.stepD (OD.extract rfl rfl rfl) rfl rfl rfl ?_
 refine G.stepD (OD.extract rfl rfl rfl) rfl rfl rfl ?_
 refine G.stepD (OD.assign rfl rfl) rfl rfl rfl ?_
 refine G.stepD (OD.assign rfl rfl) rfl rfl rfl ?_
 refine G.nil (GE.then_ (GC.seq (GC.seq (GC.region ?_))))
 refine G.stepD (OD.move rfl rfl) rfl rfl rfl ?_
 refine G.stepD (OD.move rfl rfl) rfl rfl rfl ?_
 refine G.step (OG.call [v17, v8] ent18 rfl rfl rfl rfl (by exact (eqIntS_same hs18 (Ent.ints (i := 0) rfl) hs9 (Ent.ints (i := 5) rfl) (by omega)))) rfl rfl rfl ?_
 rintro _ _ ⟨rfl, rfl⟩
 refine G.stepD (OD.not rfl rfl) rfl rfl rfl ?_
 refine G.stepD (OD.move rfl rfl) rfl rfl rfl ?_
 refine G.stepGD (OD.move rfl rfl) rfl rfl rfl rfl rfl ?_
 refine G.stepGD (OD.move rfl rfl) rfl rfl rfl rfl rfl ?_
 refine G.stepG (OG.call [v19, v10] ent18 rfl rfl rfl rfl (by exact (eqIntS_same hs20 (Ent.ints (i := 1) rfl) hs11 (Ent.ints (i := 6) rfl) (by omega)))) rfl rfl rfl rfl rfl ?_
 rintro _ _ ⟨rfl, rfl⟩
 refine G.stepGD (OD.not rfl rfl) rfl rfl rfl rfl rfl ?_
 refine G.stepD (OD.pickF rfl rfl rfl) rfl rfl rfl ?_
 refine G.nil (GE.then_ (GC.condF rfl (GC.skip (GE.then_ (GC.seq (GC.seq ?_))))))
 refine GC.at [] 0 (env' := [(1, vx), (2, .pointer (some ⟨g1, 0, none⟩)), (6, v8), (7, v10), (8, .pointer (some ⟨g14, 0, none⟩)), (9, v15), (10, v17), (11, v19)]) ⟨rfl, rfl, rfl, rfl, rfl, rfl, rfl, rfl, trivial⟩ rfl ?_
 refine GC.par (its := [⟨53, [], [], [], [], fun _ => .agg #[.int .i64 (cr), v12], fun _ => True, fun _ => []⟩,
     ⟨54, [], [], [], [], fun _ => .agg #[.int .i64 (cr), vcd], fun _ => True, fun _ => []⟩,
     ⟨55, [(1, 54)], [], [], [2], fun ds => .agg #[.int .i64 (cr), ((ds.getD 0 []).getD 0 undef)], fun ds => IsS ((ds.getD 0 []).getD 0 undef), fun ds => [ints 3 ((ds.getD 0 []).getD 0 undef) cd]⟩,
     ⟨56, [(0, 53), (2, 55)], [2], [], [2], fun _ => .bool true, fun _ => True, fun _ => []⟩,
     ⟨57, [(3, 56)], [2], [], [2], fun _ => .bool false, fun _ => True, fun _ => []⟩]) (by kernel_rfl) (by kernel_rfl) (POps.cons ?_ (POps.cons ?_ (POps.cons ?_ (POps.cons ?_ (POps.cons ?_ POps.nil))))) ?_
 intro θ R hd
 exact Opp.plain (OG.imp (OD.loadAgg rfl ti27 rfl (i := 3) rfl (us := [.int .i64 (cr), v12]) rfl rfl) (by rintro _ _ ⟨rfl, rfl⟩; exact ⟨[], rfl, trivial, rfl⟩)) rfl
 intro θ R hd
 exact Opp.plain (OG.imp (OD.loadAgg rfl ti24 rfl (i := 9) rfl (us := [.int .i64 (cr), vcd]) rfl rfl) (by rintro _ _ ⟨rfl, rfl⟩; exact ⟨[], rfl, trivial, rfl⟩)) rfl
 intro θ R hd
 obtain ⟨h1d, _⟩ := hd
 exact Opp.plain (OG.imp (OG.call [.agg #[.int .i64 (cr), vcd]] ent14 rfl rfl rfl rfl (by exact (toCartan_s scd (Ent.drop 10 ecd.app) (by omega)))) (by rintro _ _ ⟨v21, rfl, hs22, rfl⟩; exact ⟨[v21], rfl, hs22, rfl⟩)) rfl
 intro θ R hd
 obtain ⟨h0d, h2d, _⟩ := hd
 exact Opp.plain (OG.imp (OG.call [.agg #[.int .i64 (cr), v12], .agg #[.int .i64 (cr), ((θ 2).getD 0 undef)]] ent17 rfl rfl rfl rfl (by exact (eqCartan_same hs13 (Ent.ints (i := 5) rfl) h2d (Ent.ints (i := 0) rfl) (by omega)))) (by rintro _ _ ⟨rfl, rfl⟩; exact ⟨[], rfl, trivial, rfl⟩)) rfl
 intro θ R hd
 obtain ⟨h3d, _⟩ := hd
 exact Opp.plain (OG.imp (OD.not rfl rfl) (by rintro _ _ ⟨rfl, rfl⟩; exact ⟨[], rfl, trivial, rfl⟩)) rfl
 intro θ hall
 obtain ⟨_, _, h2a, _, _, _⟩ := hall
 refine G.at [] 0 (env' := [(1, vx), (2, .pointer (some ⟨g1, 0, none⟩)), (6, v8), (7, v10), (8, .pointer (some ⟨g14, 0, none⟩)), (9, v15), (10, v17), (11, v19), (57, .bool false)]) ⟨rfl, rfl, rfl, rfl, rfl, rfl, rfl, rfl, rfl, trivial⟩ (own' := ints 3 ((θ 2).getD 0 undef) cd :: ints 3 v17 ((dmOf cr cd x).1) :: ints 3 v19 ((dmOf cr cd x).2) :: ints 3 v15 x :: box g14 27 [.int .i64 (cr), v12] :: ints 3 v12 cd :: ints 3 v8 ((dmOf cr cd x).1) :: ints 3 v10 ((dmOf cr cd x).2) :: ints 3 v6 x :: ints 3 v4 cd :: box g1 24 [.int .i64 (cr), vcd] :: own) rfl ?_
 have hs23 : IsS ((θ 2).getD 0 undef) := h2a
 clear h2a
 generalize ((θ 2).getD 0 undef) = v24 at *
 show G _ _ _ [] _ _ _ _
 refine G.nil (GE.then_ (GC.condF rfl (GC.skip (GE.then_ (GC.seq (GC.seq (GC.region ?_)))))))
 refine G.stepD (OD.move rfl rfl) rfl rfl rfl ?_
 refine G.stepD (OD.move rfl rfl) rfl rfl rfl ?_
 refine G.step (OG.call [vx] ent15 rfl rfl rfl rfl (by exact (toIntS_s sx (Ent.drop 11 ex) (by omega)))) rfl rfl rfl ?_
 rintro v25 _ ⟨_, rfl, hs26, rfl⟩
 refine G.step (OG.call [v15, v25] ent18 rfl rfl rfl rfl (by exact (eqIntS_same hs16 (Ent.ints (i := 4) rfl) hs26 (Ent.ints (i := 0) rfl) (by omega)))) rfl rfl rfl ?_
 rintro _ _ ⟨rfl, rfl⟩
 refine G.stepD (OD.not rfl rfl) rfl rfl rfl ?_
 refine G.nil (GE.then_ (GC.condF rfl (GC.skip (GE.then_ (GC.seq (GC.region ?_))))))
 refine G.stepD (OD.assign rfl rfl) rfl rfl rfl ?_
 refine G.nil (GE.then_ (GC.seq (GC.region ?_)))
 refine G.stepD (OD.loadAgg rfl ti27 rfl (i := 5) rfl (us := [.int .i64 (cr), v12]) rfl rfl) rfl rfl rfl ?_
 refine G.stepD (OD.move rfl rfl) rfl rfl rfl ?_
 refine G.at [6] 0 (env' := [(1, vx), (2, .pointer (some ⟨g1, 0, none⟩)), (6, v8), (7, v10), (8, .pointer (some ⟨g14, 0, none⟩)), (9, v15), (10, v17), (11, v19), (57, .bool false), (58, v15), (59, vx), (60, v25), (61, .bool true), (62, .bool false), (12, .int .i64 (1)), (63, .agg #[.int .i64 (cr), v12]), (64, .int .i64 (1))]) ⟨rfl, rfl, rfl, rfl, rfl, rfl, rfl, rfl, rfl, rfl, rfl, rfl, rfl, rfl, rfl, rfl, rfl, trivial⟩ (own' := ints 3 v12 cd :: ints 3 v25 x :: ints 3 v24 cd :: ints 3 v17 ((dmOf cr cd x).1) :: ints 3 v19 ((dmOf cr cd x).2) :: ints 3 v15 x :: box g14 27 [.int .i64 (cr), v12] :: ints 3 v8 ((dmOf cr cd x).1) :: ints 3 v10 ((dmOf cr cd x).2) :: ints 3 v6 x :: ints 3 v4 cd :: box g1 24 [.int .i64 (cr), vcd] :: own) rfl ?_
 refine G.step (OG.call [.agg #[.int .i64 (cr), v12], .int .i64 (1)] ent26 rfl rfl rfl rfl (by exact (markCartan_s hs13 (by omega) (by omega)))) rfl rfl rfl ?_
 rintro _ _ ⟨rfl, rfl⟩
 refine G.stepD (OD.assign rfl rfl) rfl rfl rfl ?_
 refine G.nil (GE.then_ (GC.seq (GC.region ?_)))
 refine G.stepD (OD.move rfl rfl) rfl rfl rfl ?_
 refine G.stepD (OD.move rfl rfl) rfl rfl rfl ?_
 refine G.at [5] 0 (env' := [(1, vx), (2, .pointer (some ⟨g1, 0, none⟩)), (6, v8), (7, v10), (8, .pointer (some ⟨g14, 0, none⟩)), (9, v15), (10, v17), (11, v19), (57, .bool false), (58, v15), (59, vx), (60, v25), (61, .bool true), (62, .bool false), (63, .agg #[.int .i64 (cr), v12]), (64, .int .i64 (1)), (65, .int .i64 (1 + (cd.length : Nat))), (12, .int .i64 (1 + (cd.length : Nat))), (66, v15), (67, .int .i64 (1 + (cd.length : Nat)))]) ⟨rfl, rfl, rfl, rfl, rfl, rfl, rfl, rfl, rfl, rfl, rfl, rfl, rfl, rfl, rfl, rfl, rfl, rfl, rfl, rfl, trivial⟩ (own' := ints 3 v15 x :: ints 3 v12 (mkd 1 cd.length) :: ints 3 v25 x :: ints 3 v24 cd :: ints 3 v17 ((dmOf cr cd x).1) :: ints 3 v19 ((dmOf cr cd x).2) :: box g14 27 [.int .i64 (cr), v12] :: ints 3 v8 ((dmOf cr cd x).1) :: ints 3 v10 ((dmOf cr cd x).2) :: ints 3 v6 x :: ints 3 v4 cd :: box g1 24 [.int .i64 (cr), vcd] :: own) rfl ?_
 refine G.step (OG.call [v15, .int .i64 (1 + (cd.length : Nat))] ent27 rfl rfl rfl rfl (by exact (markIntS_s hs16 (by omega) (by omega)))) rfl rfl rfl ?_
 rintro _ _ ⟨rfl, rfl⟩
 refine G.stepD (OD.assign rfl rfl) rfl rfl rfl ?_
 refine G.nil (GE.then_ (GC.seq (GC.seq (GC.region ?_))))
 refine G.stepD (OD.move rfl rfl) rfl rfl rfl ?_
 refine G.stepD (OD.eqv (OD.lss rfl rfl rfl) (congrArg Value.bool ((decide_eq_false (by omega)) : _ = false))) rfl rfl rfl ?_
 refine G.stepD (OD.move rfl rfl) rfl rfl rfl ?_
 refine G.stepGD (OD.move rfl rfl) rfl rfl rfl rfl rfl ?_
 refine G.stepGD (OD.move rfl rfl) rfl rfl rfl rfl rfl ?_
 refine G.stepG (OG.call [v17, v8] ent18 rfl rfl rfl rfl (by exact (eqIntS_same hs18 (Ent.ints (i := 4) rfl) hs9 (Ent.ints (i := 7) rfl) (by omega)))) rfl rfl rfl rfl rfl ?_
 rintro _ _ ⟨rfl, rfl⟩
 refine G.stepGD (OD.not rfl rfl) rfl rfl rfl rfl rfl ?_
 refine G.stepD (OD.pickF rfl rfl rfl) rfl rfl rfl ?_
 refine G.stepD (OD.move rfl rfl) rfl rfl rfl ?_
 refine G.stepGD (OD.move rfl rfl) rfl rfl rfl rfl rfl ?_
 refine G.stepGD (OD.move rfl rfl) rfl rfl rfl rfl rfl ?_
 refine G.stepG (OG.call [v19, v10] ent18 rfl rfl rfl rfl (by exact (eqIntS_same hs20 (Ent.ints (i := 5) rfl) hs11 (Ent.ints (i := 8) rfl) (by omega)))) rfl rfl rfl rfl rfl ?_
 rintro _ _ ⟨rfl, rfl⟩
 refine G.stepGD (OD.not rfl rfl) rfl rfl rfl rfl rfl ?_
 refine G.stepD (OD.pickF rfl rfl rfl) rfl rfl rfl ?_
 refine G.nil (GE.then_ (GC.condF rfl (GC.skip (GE.then_ (GC.seq (GC.region ?_))))))
 refine G.stepD (OD.assign rfl rfl) rfl rfl rfl ?_
 refine G.nil (GE.then_ (GC.seq (GC.region ?_)))
 refine G.stepD (OD.move rfl rfl) rfl rfl rfl ?_
 refine G.stepD (OD.move rfl rfl) rfl rfl rfl ?_
 refine G.at [4] 0 (env' := [(1, vx), (2, .pointer (some ⟨g1, 0, none⟩)), (6, v8), (7, v10), (8, .pointer (some ⟨g14, 0, none⟩)), (9, v15), (10, v17), (11, v19), (57, .bool false), (58, v15), (59, vx), (60, v25), (61, .bool true), (62, .bool false), (63, .agg #[.int .i64 (cr), v12]), (64, .int .i64 (1)), (65, .int .i64 (1 + (cd.length : Nat))), (66, v15), (67, .int .i64 (1 + (cd.length : Nat))), (68, .int .i64 ((1 + (cd.length : Nat)) + (x.length : Nat))), (12, .int .i64 ((1 + (cd.length : Nat)) + (x.length : Nat))), (69, .int .i64 ((1 + (cd.length : Nat)) + (x.length : Nat))), (70, .bool false), (71, .bool false), (72, v17), (73, v8), (74, .bool true), (75, .bool false), (76, .bool false), (77, .bool false), (78, v19), (79, v10), (80, .bool true), (81, .bool false), (82, .bool false), (13, .int .i64 (1)), (83, v17), (84, .int .i64 (1))]) ⟨rfl, rfl, rfl, rfl, rfl, rfl, rfl, rfl, rfl, rfl, rfl, rfl, rfl, rfl, rfl, rfl, rfl, rfl, rfl, rfl, rfl, rfl, rfl, rfl, rfl, rfl, rfl, rfl, rfl, rfl, rfl, rfl, rfl, rfl, rfl, rfl, rfl, rfl, trivial⟩ (own' := ints 3 v17 ((dmOf cr cd x).1) :: ints 3 v15 (mkd (1 + (cd.length : Nat)) x.length) :: ints 3 v12 (mkd 1 cd.length) :: ints 3 v25 x :: ints 3 v24 cd :: ints 3 v19 ((dmOf cr cd x).2) :: box g14 27 [.int .i64 (cr), v12] :: ints 3 v8 ((dmOf cr cd x).1) :: ints 3 v10 ((dmOf cr cd x).2) :: ints 3 v6 x :: ints 3 v4 cd :: box g1 24 [.int .i64 (cr), vcd] :: own) rfl ?_
 refine G.step (OG.call [v17, .int .i64 (1)] ent27 rfl rfl rfl rfl (by exact (markIntS_s hs18 (by omega) (by omega)))) rfl rfl rfl ?_
 rintro _ _ ⟨rfl, rfl⟩
 refine G.stepD (OD.assign rfl rfl) rfl rfl rfl ?_
 refine G.nil (GE.then_ (GC.seq (GC.region ?_)))
 refine G.stepD (OD.move rfl rfl) rfl rfl rfl ?_
 refine G.stepD (OD.move rfl rfl) rfl rfl rfl ?_
 refine G.at [5] 0 (env' := [(1, vx), (2, .pointer (some ⟨g1, 0, none⟩)), (6, v8), (7, v10), (8, .pointer (some ⟨g14, 0, none⟩)), (9, v15), (10, v17), (11, v19), (57, .bool false), (58, v15), (59, vx), (60, v25), (61, .bool true), (62, .bool false), (63, .agg #[.int .i64 (cr), v12]), (64, .int .i64 (1)), (65, .int .i64 (1 + (cd.length : Nat))), (66, v15), (67, .int .i64 (1 + (cd.length : Nat))), (68, .int .i64 ((1 + (cd.length : Nat)) + (x.length : Nat))), (12, .int .i64 ((1 + (cd.length : Nat)) + (x.length : Nat))), (69, .int .i64 ((1 + (cd.length : Nat)) + (x.length : Nat))), (70, .bool false), (71, .bool false), (72, v17), (73, v8), (74, .bool true), (75, .bool false), (76, .bool false), (77, .bool false), (78, v19), (79, v10), (80, .bool true), (81, .bool false), (82, .bool false), (83, v17), (84, .int .i64 (1)), (85, .int .i64 (1 + (((dmOf cr cd x).1).length : Nat))), (13, .int .i64 (1 + (((dmOf cr cd x).1).length : Nat))), (86, v19), (87, .int .i64 (1 + (((dmOf cr cd x).1).length : Nat)))]) ⟨rfl, rfl, rfl, rfl, rfl, rfl, rfl, rfl, rfl, rfl, rfl, rfl, rfl, rfl, rfl, rfl, rfl, rfl, rfl, rfl, rfl, rfl, rfl, rfl, rfl, rfl, rfl, rfl, rfl, rfl, rfl, rfl, rfl, rfl, rfl, rfl, rfl, rfl, rfl, rfl, rfl, trivial⟩ (own' := ints 3 v19 ((dmOf cr cd x).2) :: ints 3 v17 (mkd 1 ((dmOf cr cd x).1).length) :: ints 3 v15 (mkd (1 + (cd.length : Nat)) x.length) :: ints 3 v12 (mkd 1 cd.length) :: ints 3 v25 x :: ints 3 v24 cd :: box g14 27 [.int .i64 (cr), v12] :: ints 3 v8 ((dmOf cr cd x).1) :: ints 3 v10 ((dmOf cr cd x).2) :: ints 3 v6 x :: ints 3 v4 cd :: box g1 24 [.int .i64 (cr), vcd] :: own) rfl ?_
 refine G.step (OG.call [v19, .int .i64 (1 + (((dmOf cr cd x).1).length : Nat))] ent27 rfl rfl rfl rfl (by exact (markIntS_s hs20 (by omega) (by omega)))) rfl rfl rfl ?_
 rintro _ _ ⟨rfl, rfl⟩
 refine G.stepD (OD.assign rfl rfl) rfl rfl rfl ?_
 refine G.nil (GE.then_ (GC.seq (GC.region ?_)))
 refine G.stepD (OD.assign rfl rfl) rfl rfl rfl ?_
 refine G.nil (GE.then_ (GC.seq (GC.region ?_)))
 refine G.stepD (OD.move rfl rfl) rfl rfl rfl ?_
 refine G.stepD (OD.move rfl rfl) rfl rfl rfl ?_
 refine G.step (OG.call [v17, .int .i64 (1)] ent28 rfl rfl rfl rfl (by exact (heldIntS_m hs18 (Ent.ints (i := 1) rfl) (by omega) (by omega)))) rfl rfl rfl ?_
 rintro _ _ ⟨rfl, rfl⟩
 refine G.stepD (OD.assign rfl rfl) rfl rfl rfl ?_
 refine G.nil (GE.then_ (GC.seq (GC.seq (GC.region ?_))))
 refine G.stepD (OD.move rfl rfl) rfl rfl rfl ?_
 refine G.stepD (OD.eqv (OD.lss rfl rfl rfl) (congrArg Value.bool ((decide_eq_false (by omega)) : _ = false))) rfl rfl rfl ?_
 refine G.nil (GE.then_ (GC.condF rfl (GC.skip (GE.then_ (GC.seq (GC.region ?_))))))
 refine G.stepD (OD.move rfl rfl) rfl rfl rfl ?_
 refine G.stepD (OD.move rfl rfl) rfl rfl rfl ?_
 refine G.step (OG.call [v19, .int .i64 (1 + (((dmOf cr cd x).1).length : Nat))] ent28 rfl rfl rfl rfl (by exact (heldIntS_m hs20 (Ent.ints (i := 0) rfl) (by omega) (by omega)))) rfl rfl rfl ?_
 rintro _ _ ⟨rfl, rfl⟩
 refine G.stepD (OD.assign rfl rfl) rfl rfl rfl ?_
 refine G.nil (GE.then_ (GC.seq (GC.seq (GC.region ?_))))
 refine G.stepD (OD.move rfl rfl) rfl rfl rfl ?_
 refine G.stepD (OD.eqv (OD.lss rfl rfl rfl) (congrArg Value.bool ((decide_eq_false (by omega)) : _ = false))) rfl rfl rfl ?_
 refine G.nil (GE.then_ (GC.condF rfl (GC.skip (GE.then_ (GC.seq (GC.seq (GC.region ?_)))))))
 refine G.stepD (OD.move rfl rfl) rfl rfl rfl ?_
 refine G.stepD (OD.move rfl rfl) rfl rfl rfl ?_
 refine G.stepD (OD.eqv (OD.neq rfl rfl rfl) (congrArg Value.bool ((bne_same _) : _ = false))) rfl rfl rfl ?_
 refine G.nil (GE.then_ (GC.condF rfl (GC.skip (GE.then_ (GC.seq (GC.region ?_))))))
 refine G.stepD (OD.loadAgg rfl ti24 rfl (i := 11) rfl (us := [.int .i64 (cr), vcd]) rfl rfl) rfl rfl rfl ?_
 refine G.step (OG.call [.agg #[.int .i64 (cr), vcd]] ent14 rfl rfl rfl rfl (by exact (toCartan_s scd (Ent.drop 12 ecd) (by omega)))) rfl rfl rfl ?_
 rintro _ _ ⟨v27, rfl, hs28, rfl⟩
 refine G.stepD (OD.move rfl rfl) rfl rfl rfl ?_
 refine G.step (OG.call [vx] ent15 rfl rfl rfl rfl (by exact (toIntS_s sx (Ent.drop 13 ex) (by omega)))) rfl rfl rfl ?_
 rintro v29 _ ⟨_, rfl, hs30, rfl⟩
 refine G.step (OG.call [.agg #[.int .i64 (cr), v27], v29] ent38 rfl rfl rfl rfl (by exact (dominantOf_w hs28 (Ent.ints (i := 1) rfl) hs30 (Ent.ints (i := 0) rfl) (by omega) (by omega) ((Ent.drop 14 hg))))) rfl rfl rfl ?_
 rintro _ _ ⟨v31, v33, rfl, hs32, hs34, rfl⟩
 refine G.stepD (OD.move rfl rfl) rfl rfl rfl ?_
 refine G.stepD (OD.extract rfl rfl rfl) rfl rfl rfl ?_
 refine G.stepD (OD.extract rfl rfl rfl) rfl rfl rfl ?_
 refine G.stepD (OD.assign rfl rfl) rfl rfl rfl ?_
 refine G.stepD (OD.assign rfl rfl) rfl rfl rfl ?_
 refine G.nil (GE.then_ (GC.seq (GC.seq (GC.region ?_))))
 refine G.stepD (OD.move rfl rfl) rfl rfl rfl ?_
 refine G.stepD (OD.move rfl rfl) rfl rfl rfl ?_
 refine G.step (OG.call [v31, v8] ent18 rfl rfl rfl rfl (by exact (eqIntS_same hs32 (Ent.ints (i := 0) rfl) hs9 (Ent.ints (i := 11) rfl) (by omega)))) rfl rfl rfl ?_
 rintro _ _ ⟨rfl, rfl⟩
 refine G.stepD (OD.not rfl rfl) rfl rfl rfl ?_
 refine G.stepD (OD.move rfl rfl) rfl rfl rfl ?_
 refine G.stepGD (OD.move rfl rfl) rfl rfl rfl rfl rfl ?_
 refine G.stepGD (OD.move rfl rfl) rfl rfl rfl rfl rfl ?_
 refine G.stepG (OG.call [v33, v10] ent18 rfl rfl rfl rfl (by exact (eqIntS_same hs34 (Ent.ints (i := 1) rfl) hs11 (Ent.ints (i := 12) rfl) (by omega)))) rfl rfl rfl rfl rfl ?_
 rintro _ _ ⟨rfl, rfl⟩
 refine G.stepGD (OD.not rfl rfl) rfl rfl rfl rfl rfl ?_
 refine G.stepD (OD.pickF rfl rfl rfl) rfl rfl rfl ?_
 refine G.nil (GE.then_ (GC.condF rfl (GC.skip (GE.then_ (GC.seq (GC.region ?_))))))
 refine G.stepD (OD.assign rfl rfl) rfl rfl rfl ?_
 refine G.nil (GE.then_ (GC.seq (GC.region ?_)))
 refine G.stepD (OD.move rfl rfl) rfl rfl rfl ?_
 refine G.stepD (OD.move rfl rfl) rfl rfl rfl ?_
 refine G.step (OG.call [v17, .int .i64 (1)] ent28 rfl rfl rfl rfl (by exact (heldIntS_m hs18 (Ent.ints (i := 5) rfl) (by omega) (by omega)))) rfl rfl rfl ?_
 rintro _ _ ⟨rfl, rfl⟩
 refine G.stepD (OD.assign rfl rfl) rfl rfl rfl ?_
 refine G.nil (GE.then_ (GC.seq (GC.seq (GC.region ?_))))
 refine G.stepD (OD.move rfl rfl) rfl rfl rfl ?_
 refine G.stepD (OD.eqv (OD.lss rfl rfl rfl) (congrArg Value.bool ((decide_eq_false (by omega)) : _ = false))) rfl rfl rfl ?_
 refine G.nil (GE.then_ (GC.condF rfl (GC.skip (GE.then_ (GC.seq (GC.region ?_))))))
 refine G.stepD (OD.move rfl rfl) rfl rfl rfl ?_
 refine G.stepD (OD.move rfl rfl) rfl rfl rfl ?_
 refine G.step (OG.call [v19, .int .i64 (1 + (((dmOf cr cd x).1).length : Nat))] ent28 rfl rfl rfl rfl (by exact (heldIntS_m hs20 (Ent.ints (i := 4) rfl) (by omega) (by omega)))) rfl rfl rfl ?_
 rintro _ _ ⟨rfl, rfl⟩
 refine G.stepD (OD.assign rfl rfl) rfl rfl rfl ?_
 refine G.nil (GE.then_ (GC.seq (GC.seq (GC.region ?_))))
 refine G.stepD (OD.move rfl rfl) rfl rfl rfl ?_
 refine G.stepD (OD.eqv (OD.lss rfl rfl rfl) (congrArg Value.bool ((decide_eq_false (by omega)) : _ = false))) rfl rfl rfl ?_
 refine G.nil (GE.then_ (GC.condF rfl (GC.skip (GE.then_ (GC.seq (GC.seq (GC.region ?_)))))))
 refine G.stepD (OD.move rfl rfl) rfl rfl rfl ?_
 refine G.stepD (OD.move rfl rfl) rfl rfl rfl ?_
 refine G.stepD (OD.eqv (OD.neq rfl rfl rfl) (congrArg Value.bool ((bne_same _) : _ = false))) rfl rfl rfl ?_
 refine G.nil (GE.then_ (GC.condF rfl (GC.skip (GE.then_ (GC.seq (GC.region ?_))))))
 refine G.stepD (OD.assign rfl rfl) rfl rfl rfl ?_
 refine G.nil (GE.then_ (GC.ret ?_))
 exact GE.body [] 16 (res1 rfl rfl) rfl (⟨rfl, rfl⟩)

end Go.Proofs.YtgafcopihlmfpaaDoor
