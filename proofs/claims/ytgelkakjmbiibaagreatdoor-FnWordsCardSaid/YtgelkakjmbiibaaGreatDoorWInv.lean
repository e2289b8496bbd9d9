/-
  Inversions: contracts by walks.
-/
import Derived.Test.YtgelkakjmbiibaaGreatDoorFct
import Derived.Test.YtgelkakjmbiibaaGreatDoorWNewA
import Derived.Test.YtgelkakjmbiibaaGreatDoorWAct
import Derived.Test.YtgelkakjmbiibaaGreatDoorInv
namespace Go.Proofs.YtgelkakjmbiibaaGreatDoor
set_option linter.unusedVariables false
set_option linter.unusedSimpArgs false
open Go.RowKit
theorem fd80_1 : FD Tryz.prog 80 1 2 := by have h := fd_of (f := 1) Tryz.underlying80 rfl (fun w => by kernel_rfl); exact h
theorem ent60 : ∀ us w, (callFunc 60 us).run Tryz.prog w = .ok (.enter 60 us) w := fun us w => by kernel_rfl
theorem ent79 : ∀ us w, (callFunc 79 us).run Tryz.prog w = .ok (.enter 79 us) w := fun us w => by kernel_rfl
theorem ent80 : ∀ us w, (callFunc 80 us).run Tryz.prog w = .ok (.enter 80 us) w := fun us w => by kernel_rfl
set_option maxHeartbeats 4000000 in
set_option maxRecDepth 100000 in
theorem inversionsOf_w {W : World} {own : List Asn} {cr : Int} {vcd : Value} {cd : List Int} {vword : Value} {word : List Int}  (scd : IsS vcd) (ecd : Ent own fun w => Ints w vcd cd)   (sword : IsS vword) (eword : Ent own fun w => Ints w vword word)  (hl0 : cd.length ≤ 1073741824) (hlw : word.length ≤ 1073741824) (hg : Ent own fun w => ∃ m, w.cell? ⟨Tryz.l146_ren.g 1, 0, none⟩ = some (.int .i64 m)) (htab : Ent own Pow10) : Spec Tryz.prog 26 [.agg #[.int .i64 (cr), vcd], vword] W own (fun v ow => ∃ (r0 : Value) (u0 : List Value), v = r0 ∧ IsS r0 ∧ AllS u0 ∧ u0.length = (ivL cr cd word).length ∧ ow = lst 22 r0 u0 :: many (ints 3) u0 (ivL cr cd word) :: own) := by
 refine Spec.enter Tryz.f26 _ Tryz.func26 rfl (n := 34) rfl rfl ?_
 refine GC.seq (GC.region ?_)
 refine G.step (OG.box (cs := [.int .i64 (cr), vcd]) rfl rfl rfl) rfl rfl rfl ?_
 rintro _ _ ⟨g1, rfl, rfl⟩
 refine G.stepD (OD.assign rfl rfl) rfl rfl rfl ?_
 refine G.nil (GE.then_ (GC.seq (GC.seq (GC.region ?_))))
 refine G.stepD (OD.loadAgg rfl ti27 rfl (i := 0) rfl (us := [.int .i64 (cr), vcd]) rfl rfl) rfl rfl rfl ?_
 refine G.stepD (OD.move rfl rfl) rfl rfl rfl ?_
 refine G.step (OG.call [.agg #[.int .i64 (cr), vcd], vword] ent60 rfl rfl rfl rfl (by exact (wordOk_w scd (Ent.drop 1 ecd) sword (Ent.drop 1 eword) (hl0) (by omega) ((Ent.drop 1 hg))))) rfl rfl rfl ?_
 rintro _ _ ⟨rfl, rfl⟩
 refine G.stepD (OD.not rfl rfl) rfl rfl rfl ?_
 refine G.nil (GE.then_ ?_)
 refine GC.cond rfl (fun hc2 => ?_) (fun hc2 => ?_)
 replace hc2 := eq_false_of_not hc2
 have hwb := hc2
 refine GC.seq (GC.region ?_)
 refine G.stepD (OD.assign rfl rfl) rfl rfl rfl ?_
 refine G.nil (GE.then_ (GC.ret (GE.passR ?_)))
 refine GE.many0 (ints 3) ?_
 refine GE.nilLst 22 ?_
 exact GE.body [0, 0] 1 (res1 rfl rfl) rfl (⟨(.slice none 0 0), [], rfl, IsS.nil, AllS.nil, (by rw [ivL, hwb] <;> rfl), congrArg (fun (l0 : List (List Int)) => lst 22 (.slice none 0 0) [] :: many (ints 3) [] l0 :: own) ((by rw [ivL, hwb] <;> rfl : [] = ivL cr cd word))⟩)
 replace hc2 := eq_true_of_not hc2
 have hwb := hc2
 obtain ⟨_, hw60, hwr⟩ := wordB_ok hwb
 have hS : (tyS cr cd).isSome = true := by have h := hwb; rw [wordB, Bool.and_eq_true] at h; exact h.1
 have hrs := (rtOk hS).slen
 have hrf := (rtOk hS).few
 have hrk := (rtOk hS).rk
 have hrl := (rtOk hS).lo
 have hfl : ∀ p, (((rSt cr cd).take p).filter (ivB cr cd word)).length ≤ 30 := fun p => by have h1 := List.length_filter_le (ivB cr cd word) ((rSt cr cd).take p); rw [List.length_take] at h1; omega
 refine GC.skip (GE.then_ (GC.seq (GC.region ?_)))
 refine G.step (OG.buildLst (xs := []) (us := []) rfl et39 rfl rfl rfl rfl rfl) rfl rfl rfl ?_
 rintro v3 _ ⟨hs4, rfl⟩
 refine G.stepD (OD.assign rfl rfl) rfl rfl rfl ?_
 refine G.nil (GE.then_ (GC.seq (GC.seq (GC.region ?_))))
 refine G.stepD (OD.loadAgg rfl ti27 rfl (i := 1) rfl (us := [.int .i64 (cr), vcd]) rfl rfl) rfl rfl rfl ?_
 refine G.step (OG.call [.agg #[.int .i64 (cr), vcd]] ent78 rfl rfl rfl rfl (by exact (newRoots_w scd (Ent.drop 2 ecd) ((tyS_ok hS).1) ((tyS_ok hS).2) (hS) ((Ent.drop 2 htab))))) rfl rfl rfl ?_
 rintro _ _ ⟨v5, u6, g10, rfl, hs7, hs8, hs9, rfl⟩
 refine G.stepD (OD.field (us := [.int .i64 (cr), vcd, v5, .map (some g10)]) rfl fd80_1 rfl rfl) rfl rfl rfl ?_
 refine G.stepD (OD.len rfl rfl et39 rfl (Ent.lst (i := 0) rfl)) rfl rfl rfl ?_
 refine G.stepD (OD.move rfl rfl) rfl rfl rfl ?_
 refine G.nil (GE.then_ (GC.block ?_))
 refine GC.many0 (ints 3) ?_
 refine GC.loop (ι := Nat × List Value × Value) (fun ⟨p, us, v⟩ => [(1, vword), (2, .pointer (some ⟨g1, 0, none⟩)), (15, v5), (16, .int .i64 ((u6.length : Nat))), (5, v), (17, .int .i64 ((p : Int)))]) (fun ⟨p, us, v⟩ => many (ints 3) us (((rSt cr cd).take p).filter (ivB cr cd word)) :: lst 22 v5 u6 :: many (ints 3) u6 (rSt cr cd) :: mapA keyL valI g10 (rKvs cr cd) :: lst 22 v us :: box g1 27 [.int .i64 (cr), vcd] :: own) (fun ⟨p, us, v⟩ => (p ≤ (rSt cr cd).length) ∧ (AllS us) ∧ (us.length = (((rSt cr cd).take p).filter (ivB cr cd word)).length) ∧ (IsS v)) (fun ⟨p, us, v⟩ => (rSt cr cd).length - p) (0, [], v3) (⟨by omega, AllS.nil, rfl, hs4⟩) ⟨rfl, rfl, rfl, rfl, rfl, rfl, trivial⟩ [] 0 rfl ?_
 rintro ⟨p, us, v⟩ ⟨hp, ha, hul, hv⟩
 refine GC.seq (GC.region ?_)
 refine G.stepD (OD.lss rfl rfl rfl) rfl rfl rfl ?_
 refine G.nil (GE.then_ (GC.seq ?_))
 refine GC.cond rfl (fun hc11 => ?_) (fun hc11 => ?_)
 replace hc11 := of_decide_eq_true hc11
 have hflp := hfl p
 have hxl := ((rtOk hS).sget (show p < (rSt cr cd).length by omega)).1
 have hrt := rt_arF hS (root_in hS (show p < (rSt cr cd).length by omega)).2.1 word hwr
 refine GC.skip (GE.then_ (GC.seq (GC.block (GC.seq (GC.region ?_)))))
 refine G.stepD (OD.indexAddr rfl et39 rfl (Ent.lst (i := 1) rfl) rfl (by omega)) rfl rfl rfl ?_
 refine G.stepD (OD.loadElem rfl ti22 rfl (Ent.lst (i := 1) rfl) (by omega) rfl) rfl rfl rfl ?_
 refine G.stepD (OD.assign rfl rfl) rfl rfl rfl ?_
 refine G.nil (GE.then_ (GC.seq (GC.region ?_)))
 refine G.stepD (OD.loadAgg rfl ti27 rfl (i := 5) rfl (us := [.int .i64 (cr), vcd]) rfl rfl) rfl rfl rfl ?_
 refine G.stepD (OD.move rfl rfl) rfl rfl rfl ?_
 refine G.stepD (OD.move rfl rfl) rfl rfl rfl ?_
 refine G.step (OG.call [.agg #[.int .i64 (cr), vcd], vword, (u6.getD (p) undef)] ent80 rfl rfl rfl rfl (by exact (actRoot_w scd (Ent.drop 6 ecd) sword (Ent.drop 6 eword) (hs8.get (by omega)) (Ent.manyInts (i := 2) rfl ⟨by first | omega | (simp; omega), by first | omega | (simp; omega)⟩) ((tyS_ok hS).1) ((tyS_ok hS).2) (⟨by omega, hwr⟩) (by omega)))) rfl rfl rfl ?_
 rintro v12 _ ⟨_, rfl, hs13, rfl⟩
 refine G.step (OG.call [v12] ent79 rfl rfl rfl rfl (by exact (sumOf_w hs13 (Ent.ints (i := 0) rfl) (by first | omega | (rw [arF_len]; omega))))) rfl rfl rfl ?_
 rintro _ _ ⟨rfl, rfl⟩
 refine G.stepD (OD.lss rfl rfl rfl) rfl rfl rfl ?_
 refine G.nil (GE.then_ ?_)
 refine GC.cond rfl (fun hc14 => ?_) (fun hc14 => ?_)
 replace hc14 := of_decide_eq_true hc14
 have hiv : ivB cr cd word ((rSt cr cd).getD p []) = true := decide_eq_true hc14
 refine GC.region ?_
 refine G.stepD (OD.move rfl rfl) rfl rfl rfl ?_
 refine G.stepD (OD.move rfl rfl) rfl rfl rfl ?_
 refine G.step (OG.call [(u6.getD (p) undef)] ent76 rfl rfl rfl rfl (by exact (clone_w (hs8.get (by omega)) (Ent.manyInts (i := 3) rfl ⟨by first | omega | (simp; omega), by first | omega | (simp; omega)⟩) (by first | omega | (rw [arF_len]; omega))))) rfl rfl rfl ?_
 rintro v15 _ ⟨_, rfl, hs16, rfl⟩
 refine G.step (OG.buildLst (xs := [.tmp 29]) (us := [v15]) rfl et39 rfl rfl rfl (allC (IsS.one hs16) rfl) rfl) rfl rfl rfl ?_
 rintro v17 _ ⟨hs18, rfl⟩
 refine G.step (OG.appendLst 7 rfl rfl et39 rfl rfl rfl (Ent.lst (i := 0) rfl) (List.all_eq_true.2 fun u hu => by simpa using (AllS.snoc AllS.nil hs16).one u hu) (by simp [maxLen] <;> omega)) rfl rfl rfl ?_
 rintro v19 _ ⟨hs20, rfl⟩
 refine G.stepD (OD.assign rfl rfl) rfl rfl rfl ?_
 refine G.nil (GE.blockN (GE.then_ (GC.region ?_)))
 refine G.stepD (OD.addI rfl rfl rfl (by omega)) rfl rfl rfl ?_
 refine G.stepD (OD.move rfl rfl) rfl rfl rfl ?_
 refine G.nil ?_
 refine GE.at [1, 2, 0, 0, 0, 0, 0, 0, 0] 0 (env' := [(1, vword), (2, .pointer (some ⟨g1, 0, none⟩)), (15, v5), (16, .int .i64 ((u6.length : Nat))), (18, .bool (decide ((p : Int) < (u6.length : Nat)))), (19, elemPtr v5 1 (p)), (20, (u6.getD (p) undef)), (7, (u6.getD (p) undef)), (21, .agg #[.int .i64 (cr), vcd]), (22, vword), (23, (u6.getD (p) undef)), (24, v12), (25, .int .i64 (sumW (arF cr cd word ((rSt cr cd).getD (p) [])))), (26, .bool (decide (sumW (arF cr cd word ((rSt cr cd).getD (p) [])) < 0))), (27, v), (28, (u6.getD (p) undef)), (29, v15), (30, v17), (31, v19), (5, v19), (32, .int .i64 ((p : Int) + 1)), (17, .int .i64 ((p : Int) + 1))]) ⟨rfl, rfl, rfl, rfl, rfl, rfl, rfl, rfl, rfl, rfl, rfl, rfl, rfl, rfl, rfl, rfl, rfl, rfl, rfl, rfl, rfl, rfl, trivial⟩ (own' := ints 3 v15 ((rSt cr cd).getD (p) []) :: many (ints 3) us (((rSt cr cd).take p).filter (ivB cr cd word)) :: lst 22 v17 [v15] :: ints 3 v12 (arF cr cd word ((rSt cr cd).getD (p) [])) :: lst 22 v5 u6 :: many (ints 3) u6 (rSt cr cd) :: mapA keyL valI g10 (rKvs cr cd) :: lst 22 v19 (us ++ [v15]) :: box g1 27 [.int .i64 (cr), vcd] :: own) rfl ?_
 refine GE.manyPush (by omega) ?_
 refine GE.ownEq (own' := many (ints 3) (us ++ [v15]) (((rSt cr cd).take (p + 1)).filter (ivB cr cd word)) :: lst 22 v17 [v15] :: ints 3 v12 (arF cr cd word ((rSt cr cd).getD (p) [])) :: lst 22 v5 u6 :: many (ints 3) u6 (rSt cr cd) :: mapA keyL valI g10 (rKvs cr cd) :: lst 22 v19 (us ++ [v15]) :: box g1 27 [.int .i64 (cr), vcd] :: own) (by (try dsimp only); rw [filter_yes (d := []) (by omega) hiv]) ?_
 exact GE.again (p + 1, us ++ [v15], v19) (⟨by omega, (ha.snoc hs16), by rw [← filter_yes (d := []) (by omega) hiv, List.length_append, List.length_append]; simp; omega, hs20⟩) (by first | omega | (dsimp only; omega)) ⟨rfl, rfl, rfl, rfl, rfl, rfl, trivial⟩ [0, 2, 2, 2, 2, 2] 2 rfl
 replace hc14 := of_decide_eq_false hc14
 have hiv : ivB cr cd word ((rSt cr cd).getD p []) = false := decide_eq_false hc14
 refine GC.skip (GE.blockN (GE.then_ (GC.region ?_)))
 refine G.stepD (OD.addI rfl rfl rfl (by omega)) rfl rfl rfl ?_
 refine G.stepD (OD.move rfl rfl) rfl rfl rfl ?_
 refine G.nil ?_
 refine GE.ownEq (own' := ints 3 v12 (arF cr cd word ((rSt cr cd).getD (p) [])) :: many (ints 3) us (((rSt cr cd).take (p + 1)).filter (ivB cr cd word)) :: lst 22 v5 u6 :: many (ints 3) u6 (rSt cr cd) :: mapA keyL valI g10 (rKvs cr cd) :: lst 22 v us :: box g1 27 [.int .i64 (cr), vcd] :: own) (by (try dsimp only); rw [filter_no (d := []) (by omega) hiv]) ?_
 exact GE.again (p + 1, us, v) (⟨by omega, ha, by rw [← filter_no (d := []) (by omega) hiv]; omega, hv⟩) (by first | omega | (dsimp only; omega)) ⟨rfl, rfl, rfl, rfl, rfl, rfl, trivial⟩ [1, 1, 1, 1, 1, 1] 1 rfl
 replace hc11 := of_decide_eq_false hc11
 refine GC.exit (GE.pass (GE.pass (GE.hit (GE.then_ (GC.seq (GC.region ?_))))))
 refine G.stepD (OD.move rfl rfl) rfl rfl rfl ?_
 refine G.stepD (OD.assign rfl rfl) rfl rfl rfl ?_
 refine G.nil (GE.then_ (GC.ret ?_))
 exact GE.body [4, 0] 4 (res1 rfl rfl) rfl (⟨v, us, rfl, hv, ha, (by rw [ivL, if_pos hwb, ← List.take_of_length_le (show (rSt cr cd).length ≤ p by omega)]; exact hul), congrArg (fun (l0 : List (List Int)) => lst 22 v us :: many (ints 3) us l0 :: own) ((by rw [ivL, if_pos hwb, List.take_of_length_le (by omega)] : ((rSt cr cd).take p).filter (ivB cr cd word) = ivL cr cd word))⟩)
end Go.Proofs.YtgelkakjmbiibaaGreatDoor
