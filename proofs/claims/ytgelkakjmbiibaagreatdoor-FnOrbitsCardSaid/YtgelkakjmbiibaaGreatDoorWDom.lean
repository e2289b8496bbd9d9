/-
  The dominant weight: contracts by walks.
-/
import Derived.Test.YtgelkakjmbiibaaGreatDoorFct
import Derived.Test.YtgelkakjmbiibaaGreatDoorWClb
import Derived.Test.YtgelkakjmbiibaaGreatDoorIns
namespace Go.Proofs.YtgelkakjmbiibaaGreatDoor
set_option linter.unusedVariables false
set_option linter.unusedSimpArgs false
open Go.RowKit
set_option maxHeartbeats 4000000 in
set_option maxRecDepth 100000 in
theorem dominantOf_w {W : World} {own : List Asn} {cr : Int} {vcd : Value} {cd : List Int} {vx : Value} {x : List Int}  (scd : IsS vcd) (ecd : Ent own fun w => Ints w vcd cd)   (sx : IsS vx) (ex : Ent own fun w => Ints w vx x)  (hl0 : cd.length ≤ 1073741824) (hl : x.length ≤ 1073741824) (hg : Ent own fun w => ∃ m, w.cell? ⟨Tryz.l146_ren.g 1, 0, none⟩ = some (.int .i64 m)) : Spec Tryz.prog 31 [.agg #[.int .i64 (cr), vcd], vx] W own (fun v ow => ∃ (r0 : Value) (r1 : Value), v = .tuple #[r0, r1] ∧ IsS r0 ∧ IsS r1 ∧ ow = ints 3 r0 ((dmOf cr cd x).1) :: ints 3 r1 ((dmOf cr cd x).2) :: own) := by
 refine Spec.enter Tryz.f31 _ Tryz.func31 rfl (n := 39) rfl rfl ?_
 refine GC.seq (GC.region ?_)
 refine G.step (OG.box (cs := [.int .i64 (cr), vcd]) rfl rfl rfl) rfl rfl rfl ?_
 rintro _ _ ⟨g1, rfl, rfl⟩
 refine G.stepD (OD.assign rfl rfl) rfl rfl rfl ?_
 refine G.stepD (OD.assign rfl rfl) rfl rfl rfl ?_
 refine G.nil (GE.then_ (GC.seq (GC.seq (GC.region ?_))))
 refine G.stepD (OD.loadAgg rfl ti27 rfl (i := 0) rfl (us := [.int .i64 (cr), vcd]) rfl rfl) rfl rfl rfl ?_
 refine G.step (OG.call [.agg #[.int .i64 (cr), vcd]] ent43 rfl rfl rfl rfl (by exact (isCartan_w scd (Ent.drop 1 ecd) (hl0) ((Ent.drop 1 hg))))) rfl rfl rfl ?_
 rintro _ _ ⟨rfl, rfl⟩
 refine G.stepD (OD.not rfl rfl) rfl rfl rfl ?_
 refine G.stepD (OD.move rfl rfl) rfl rfl rfl ?_
 rcases Bool.eq_false_or_eq_true (!((tyS cr cd).isSome)) with hg2 | hg2
 have hg2e := hg2
 refine G.at [] 0 (env' := [(0, .agg #[.int .i64 (cr), vcd]), (1, vx), (2, .pointer (some ⟨g1, 0, none⟩)), (4, .slice none 0 0), (5, .slice none 0 0), (9, .agg #[.int .i64 (cr), vcd]), (10, .bool ((tyS cr cd).isSome)), (11, .bool true), (12, .bool true)]) (⟨rfl, rfl, rfl, rfl, rfl, rfl, rfl, (congrArg (fun b => some (Value.bool b)) hg2e), (congrArg (fun b => some (Value.bool b)) hg2e), trivial⟩) rfl ?_
 replace hg2 := eq_false_of_not hg2
 refine G.skipG rfl rfl rfl rfl rfl rfl (G.skipG rfl rfl rfl rfl rfl rfl (G.skipG rfl rfl rfl rfl rfl rfl (G.skipG rfl rfl rfl rfl rfl rfl ?_)))
 refine G.stepD (OD.pickT rfl rfl rfl) rfl rfl rfl ?_
 refine G.nil (GE.then_ (GC.condT rfl (GC.seq (GC.region ?_))))
 refine G.stepD (OD.assign rfl rfl) rfl rfl rfl ?_
 refine G.stepD (OD.assign rfl rfl) rfl rfl rfl ?_
 refine G.nil (GE.then_ (GC.ret (GE.passR ?_)))
 refine GE.nilInts 3 ?_
 refine GE.nilInts 3 ?_
 exact GE.body [0, 0] 1 (res2 rfl rfl rfl) rfl (⟨(.slice none 0 0), (.slice none 0 0), rfl, IsS.nil, IsS.nil, cong2 (fun (l0 : List Int) (l1 : List Int) => ints 3 (.slice none 0 0) l0 :: ints 3 (.slice none 0 0) l1 :: own) ((by rw [dmOf]; exact (rfl).trans (congrArg Prod.fst (show (([] : List Int), ([] : List Int)) = _ from (if_f1 hg2).symm)) : [] = (dmOf cr cd x).1)) ((by rw [dmOf]; exact (rfl).trans (congrArg Prod.snd (show (([] : List Int), ([] : List Int)) = _ from (if_f1 hg2).symm)) : [] = (dmOf cr cd x).2))⟩)
 have hg2e := hg2
 refine G.at [] 0 (env' := [(0, .agg #[.int .i64 (cr), vcd]), (1, vx), (2, .pointer (some ⟨g1, 0, none⟩)), (4, .slice none 0 0), (5, .slice none 0 0), (9, .agg #[.int .i64 (cr), vcd]), (10, .bool ((tyS cr cd).isSome)), (11, .bool false), (12, .bool false)]) (⟨rfl, rfl, rfl, rfl, rfl, rfl, rfl, (congrArg (fun b => some (Value.bool b)) hg2e), (congrArg (fun b => some (Value.bool b)) hg2e), trivial⟩) rfl ?_
 replace hg2 := eq_true_of_not hg2
 refine G.stepGD (OD.loadAgg rfl ti27 rfl (i := 0) rfl (us := [.int .i64 (cr), vcd]) rfl rfl) rfl rfl rfl rfl rfl ?_
 refine G.stepGD (OD.move rfl rfl) rfl rfl rfl rfl rfl ?_
 refine G.stepG (OG.call [.agg #[.int .i64 (cr), vcd], vx] ent81 rfl rfl rfl rfl (by exact (isWeight_w scd (Ent.drop 1 ecd) sx (Ent.drop 1 ex) (by first | omega | (rw [rfF_len]; omega))))) rfl rfl rfl rfl rfl ?_
 rintro _ _ ⟨rfl, rfl⟩
 refine G.stepGD (OD.not rfl rfl) rfl rfl rfl rfl rfl ?_
 refine G.stepD (OD.pickF rfl rfl rfl) rfl rfl rfl ?_
 refine G.nil (GE.then_ ?_)
 refine GC.cond rfl (fun hc3 => ?_) (fun hc3 => ?_)
 replace hc3 := eq_false_of_not hc3
 refine GC.seq (GC.region ?_)
 refine G.stepD (OD.assign rfl rfl) rfl rfl rfl ?_
 refine G.stepD (OD.assign rfl rfl) rfl rfl rfl ?_
 refine G.nil (GE.then_ (GC.ret (GE.passR ?_)))
 refine GE.nilInts 3 ?_
 refine GE.nilInts 3 ?_
 exact GE.body [0, 0] 1 (res2 rfl rfl rfl) rfl (⟨(.slice none 0 0), (.slice none 0 0), rfl, IsS.nil, IsS.nil, cong2 (fun (l0 : List Int) (l1 : List Int) => ints 3 (.slice none 0 0) l0 :: ints 3 (.slice none 0 0) l1 :: own) ((by rw [dmOf]; exact (rfl).trans (congrArg Prod.fst (show (([] : List Int), ([] : List Int)) = _ from (if_f2 hc3).symm)) : [] = (dmOf cr cd x).1)) ((by rw [dmOf]; exact (rfl).trans (congrArg Prod.snd (show (([] : List Int), ([] : List Int)) = _ from (if_f2 hc3).symm)) : [] = (dmOf cr cd x).2))⟩)
 replace hc3 := eq_true_of_not hc3
 have hc4 := (tyS_ok hg2).1
 refine GC.skip (GE.then_ (GC.seq (GC.region ?_)))
 refine G.stepD (OD.move rfl rfl) rfl rfl rfl ?_
 refine G.step (OG.call [vx] ent76 rfl rfl rfl rfl (by exact (clone_w sx (Ent.drop 1 ex) (by first | omega | (rw [rfF_len]; omega))))) rfl rfl rfl ?_
 rintro v4 _ ⟨_, rfl, hs5, rfl⟩
 refine G.stepD (OD.assign rfl rfl) rfl rfl rfl ?_
 refine G.nil (GE.then_ (GC.seq (GC.region ?_)))
 refine G.step (OG.buildInts (xs := []) (is := []) rfl et22 rfl rfl rfl rfl rfl) rfl rfl rfl ?_
 rintro v6 _ ⟨hs7, rfl⟩
 refine G.stepD (OD.assign rfl rfl) rfl rfl rfl ?_
 refine G.nil (GE.then_ (GC.block ?_))
 refine GC.loop (ι := Nat × List Int × List Int × Value × Value) (fun ⟨f, w, ws, v, u⟩ => [(2, .pointer (some ⟨g1, 0, none⟩)), (6, v), (7, u)]) (fun ⟨f, w, ws, v, u⟩ => ints 3 u ws :: ints 3 v w :: box g1 27 [.int .i64 (cr), vcd] :: own) (fun ⟨f, w, ws, v, u⟩ => (IsS v) ∧ (IsS u) ∧ (wtOk cr w = true) ∧ (domS cr cd f w ws = some ((dmF cr cd x).1, (dmF cr cd x).2)) ∧ (f + ws.length ≤ 800002)) (fun ⟨f, w, ws, v, u⟩ => f) (800002, x, [], v4, v6) (⟨hs5, hs7, hc3, domS_ok (phOk hg2) (by have := (tyS_ok hg2).1; omega) hc3, by simp⟩) ⟨rfl, rfl, rfl, trivial⟩ [] 0 rfl ?_
 rintro ⟨f, w, ws, v, u⟩ ⟨hv, hu, hwt, hd, hwf⟩
 have hwl := wtOk_len hwt
 refine GC.block (GC.seq (GC.region ?_))
 refine G.stepD (OD.move rfl rfl) rfl rfl rfl ?_
 refine G.step (OG.call [v, .func (.func 90) #[] #[]] ent89 rfl rfl rfl rfl (by exact (indexFuncD_w hv (Ent.ints (i := 1) rfl) (by first | omega | (rw [rfF_len]; omega))))) rfl rfl rfl ?_
 rintro _ _ ⟨rfl, rfl⟩
 refine G.stepD (OD.assign rfl rfl) rfl rfl rfl ?_
 refine G.nil (GE.then_ (GC.seq (GC.seq (GC.region ?_))))
 refine G.stepD (OD.move rfl rfl) rfl rfl rfl ?_
 refine G.stepD (OD.lss rfl rfl rfl) rfl rfl rfl ?_
 refine G.nil (GE.then_ ?_)
 refine GC.cond rfl (fun hc8 => ?_) (fun hc8 => ?_)
 replace hc8 := of_decide_eq_true hc8
 obtain ⟨hr1, hr2⟩ := domS_end hd hwt hc8
 refine GC.seq (GC.region ?_)
 refine G.stepD (OD.move rfl rfl) rfl rfl rfl ?_
 refine G.stepD (OD.move rfl rfl) rfl rfl rfl ?_
 refine G.stepD (OD.assign rfl rfl) rfl rfl rfl ?_
 refine G.stepD (OD.assign rfl rfl) rfl rfl rfl ?_
 refine G.nil (GE.then_ (GC.ret (GE.passR (GE.blockR (GE.passR (GE.blockR ?_))))))
 exact GE.body [1, 0] 1 (res2 rfl rfl rfl) rfl (⟨v, u, rfl, hv, hu, cong2 (fun (l0 : List Int) (l1 : List Int) => ints 3 v l0 :: ints 3 u l1 :: own) ((by rw [dmOf]; exact (hr1).trans (congrArg Prod.fst ((if_t hg2 hc3).symm)) : w = (dmOf cr cd x).1)) ((by rw [dmOf]; exact (hr2).trans (congrArg Prod.snd ((if_t hg2 hc3).symm)) : ws = (dmOf cr cd x).2))⟩)
 replace hc8 := of_decide_eq_false hc8
 obtain ⟨gg, hgg, hd2⟩ := domS_step hd hwt hc8
 have hfa : 0 ≤ posF (fun (y : Int) => decide (y < 0)) w ∧ (posF (fun (y : Int) => decide (y < 0)) w).toNat < w.length ∧ w.getD (posF (fun (y : Int) => decide (y < 0)) w).toNat 0 < 0 := fpos_at hc8
 refine GC.skip (GE.then_ (GC.seq (GC.region ?_)))
 refine G.stepD (OD.loadAgg rfl ti27 rfl (i := 2) rfl (us := [.int .i64 (cr), vcd]) rfl rfl) rfl rfl rfl ?_
 refine G.stepD (OD.move rfl rfl) rfl rfl rfl ?_
 refine G.stepD (OD.move rfl rfl) rfl rfl rfl ?_
 refine G.step (OG.call [.agg #[.int .i64 (cr), vcd], .int .i64 (posF (fun (y : Int) => decide (y < 0)) w), v] ent67 rfl rfl rfl rfl (by exact (reflectWeight_w scd (Ent.drop 3 ecd) hv (Ent.ints (i := 1) rfl) ((tyS_ok hg2).1) ((tyS_ok hg2).2) (by omega) (wtOk_len hwt)))) rfl rfl rfl ?_
 rintro v9 _ ⟨_, rfl, hs10, rfl⟩
 refine G.stepD (OD.assign rfl rfl) rfl rfl rfl ?_
 refine G.nil (GE.then_ (GC.seq (GC.region ?_)))
 refine G.stepD (OD.move rfl rfl) rfl rfl rfl ?_
 refine G.stepD (OD.move rfl rfl) rfl rfl rfl ?_
 refine G.step (OG.buildInts (xs := [.tmp 32]) (is := [posF (fun (y : Int) => decide (y < 0)) w]) rfl et22 rfl rfl rfl rfl rfl) rfl rfl rfl ?_
 rintro v11 _ ⟨hs12, rfl⟩
 refine G.at [2, 0] 0 (env' := [(2, .pointer (some ⟨g1, 0, none⟩)), (7, u), (21, v), (22, .int .i64 (posF (fun (y : Int) => decide (y < 0)) w)), (8, .int .i64 (posF (fun (y : Int) => decide (y < 0)) w)), (23, .int .i64 (posF (fun (y : Int) => decide (y < 0)) w)), (24, .bool (decide (posF (fun (y : Int) => decide (y < 0)) w < 0))), (27, .agg #[.int .i64 (cr), vcd]), (28, .int .i64 (posF (fun (y : Int) => decide (y < 0)) w)), (29, v), (30, v9), (6, v9), (31, u), (32, .int .i64 (posF (fun (y : Int) => decide (y < 0)) w)), (33, v11)]) ⟨rfl, rfl, rfl, rfl, rfl, rfl, rfl, rfl, rfl, rfl, rfl, rfl, rfl, rfl, rfl, trivial⟩ (own' := ints 3 u ws :: ints 3 v11 [posF (fun (y : Int) => decide (y < 0)) w] :: ints 3 v9 (rfF cr cd (posF (fun (y : Int) => decide (y < 0)) w) w) :: ints 3 v w :: box g1 27 [.int .i64 (cr), vcd] :: own) rfl ?_
 refine G.step (OG.call [u, .int .i64 (0), v11] ent91 rfl rfl rfl rfl (by exact (insert_w (x := ws) (a := posF (fun (y : Int) => decide (y < 0)) w) (by omega)))) rfl rfl rfl ?_
 rintro v13 _ ⟨_, rfl, hs14, rfl⟩
 refine G.stepD (OD.assign rfl rfl) rfl rfl rfl ?_
 refine G.nil (GE.then_ (GC.seq (GC.region ?_)))
 refine G.stepD (OD.loadAgg rfl ti27 rfl (i := 3) rfl (us := [.int .i64 (cr), vcd]) rfl rfl) rfl rfl rfl ?_
 refine G.stepD (OD.move rfl rfl) rfl rfl rfl ?_
 refine G.step (OG.call [.agg #[.int .i64 (cr), vcd], v9] ent81 rfl rfl rfl rfl (by exact (isWeight_w scd (Ent.drop 4 ecd) hs10 (Ent.ints (i := 1) rfl) (by first | omega | (rw [rfF_len]; omega))))) rfl rfl rfl ?_
 rintro _ _ ⟨rfl, rfl⟩
 refine G.stepD (OD.not rfl rfl) rfl rfl rfl ?_
 refine G.nil (GE.then_ ?_)
 refine GC.cond rfl (fun hc15 => ?_) (fun hc15 => ?_)
 replace hc15 := eq_false_of_not hc15
 refine GC.seq (GC.region ?_)
 refine G.stepD (OD.assign rfl rfl) rfl rfl rfl ?_
 refine G.stepD (OD.assign rfl rfl) rfl rfl rfl ?_
 refine G.nil (GE.then_ (GC.ret (GE.blockR (GE.passR (GE.blockR ?_)))))
 refine GE.nilInts 3 ?_
 refine GE.nilInts 3 ?_
 exact GE.body [0, 0] 4 (res2 rfl rfl rfl) rfl (⟨(.slice none 0 0), (.slice none 0 0), rfl, IsS.nil, IsS.nil, cong2 (fun (l0 : List Int) (l1 : List Int) => ints 3 (.slice none 0 0) l0 :: ints 3 (.slice none 0 0) l1 :: own) ((by rw [dmOf]; exact ((domS_bad hd2 hc15).1).trans (congrArg Prod.fst ((if_t hg2 hc3).symm)) : [] = (dmOf cr cd x).1)) ((by rw [dmOf]; exact ((domS_bad hd2 hc15).2).trans (congrArg Prod.snd ((if_t hg2 hc3).symm)) : [] = (dmOf cr cd x).2))⟩)
 replace hc15 := eq_true_of_not hc15
 refine GC.skip (GE.blockN ?_)
 exact GE.again (gg, rfF cr cd (posF (fun (y : Int) => decide (y < 0)) w) w, (posF (fun (y : Int) => decide (y < 0)) w) :: ws, v9, v13) (⟨hs10, hs14, hc15, hd2, by rw [List.length_cons]; omega⟩) (by first | omega | (dsimp only; omega)) ⟨rfl, rfl, rfl, trivial⟩ [0, 0, 1] 1 rfl
end Go.Proofs.YtgelkakjmbiibaaGreatDoor
