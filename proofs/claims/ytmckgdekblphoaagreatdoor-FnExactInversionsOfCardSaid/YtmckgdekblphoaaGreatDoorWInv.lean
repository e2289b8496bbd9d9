/-
  Inversions: contracts by walks.
-/
import Derived.Test.YtmckgdekblphoaaGreatDoorWNst
import Derived.Test.YtmckgdekblphoaaGreatDoorInv
namespace Go.Proofs.YtmckgdekblphoaaGreatDoor
set_option linter.unusedVariables false
set_option linter.unusedSimpArgs false
open Go.RowKit

theorem fd48_1 : FD Tryz.prog 48 1 2 := by have h := fd_of (f := 1) Tryz.underlying48 rfl (fun w => by kernel_rfl); exact h
theorem ent10 : ∀ us w, (callFunc 10 us).run Tryz.prog w = .ok (.enter 10 us) w := fun us w => by kernel_rfl
theorem ent12 : ∀ us w, (callFunc 12 us).run Tryz.prog w = .ok (.enter 12 us) w := fun us w => by kernel_rfl
theorem ent14 : ∀ us w, (callFunc 14 us).run Tryz.prog w = .ok (.enter 14 us) w := fun us w => by kernel_rfl
theorem ent15 : ∀ us w, (callFunc 15 us).run Tryz.prog w = .ok (.enter 15 us) w := fun us w => by kernel_rfl
theorem ent16 : ∀ us w, (callFunc 16 us).run Tryz.prog w = .ok (.enter 16 us) w := fun us w => by kernel_rfl
theorem ent17 : ∀ us w, (callFunc 17 us).run Tryz.prog w = .ok (.enter 17 us) w := fun us w => by kernel_rfl
theorem ent18 : ∀ us w, (callFunc 18 us).run Tryz.prog w = .ok (.enter 18 us) w := fun us w => by kernel_rfl
theorem ent19 : ∀ us w, (callFunc 19 us).run Tryz.prog w = .ok (.enter 19 us) w := fun us w => by kernel_rfl
theorem ent21 : ∀ us w, (callFunc 21 us).run Tryz.prog w = .ok (.enter 21 us) w := fun us w => by kernel_rfl
theorem ent37 : ∀ us w, (callFunc 37 us).run Tryz.prog w = .ok (.enter 37 us) w := fun us w => by kernel_rfl
theorem ent40 : ∀ us w, (callFunc 40 us).run Tryz.prog w = .ok (.enter 40 us) w := fun us w => by kernel_rfl
theorem ent41 : ∀ us w, (callFunc 41 us).run Tryz.prog w = .ok (.enter 41 us) w := fun us w => by kernel_rfl
theorem ent43 : ∀ us w, (callFunc 43 us).run Tryz.prog w = .ok (.enter 43 us) w := fun us w => by kernel_rfl
theorem ent44 : ∀ us w, (callFunc 44 us).run Tryz.prog w = .ok (.enter 44 us) w := fun us w => by kernel_rfl
theorem ent45 : ∀ us w, (callFunc 45 us).run Tryz.prog w = .ok (.enter 45 us) w := fun us w => by kernel_rfl
theorem ent46 : ∀ us w, (callFunc 46 us).run Tryz.prog w = .ok (.enter 46 us) w := fun us w => by kernel_rfl

set_option maxHeartbeats 4000000 in
set_option maxRecDepth 100000 in
theorem inversionsOf_w {W : World} {own : List Asn} {cr : Int} {vcd : Value} {cd : List Int} {vword : Value} {word : List Int}  (scd : IsS vcd) (ecd : Ent own fun w => Ints w vcd cd)   (sword : IsS vword) (eword : Ent own fun w => Ints w vword word)  (hl0 : cd.length ≤ 1073741824) (hlw : word.length ≤ 1073741824) (hg : Ent own fun w => ∃ m, w.cell? ⟨Tryz.l146_ren.g 1, 0, none⟩ = some (.int .i64 m)) (htab : Ent own Pow10) : Spec Tryz.prog 21 [.agg #[.int .i64 (cr), vcd], vword] W own (fun v ow => ∃ (r0 : Value) (u0 : List Value), v = r0 ∧ IsS r0 ∧ AllS u0 ∧ u0.length = (ivL cr cd word).length ∧ ow = lst 22 r0 u0 :: many (ints 3) u0 (ivL cr cd word) :: own) := by
 refine Spec.enter Tryz.f21 _ Tryz.func21 rfl (n := 34) rfl rfl ?_
 refine GC.seq (GC.region ?_)
 refine G.step (OG.box (cs := [.int .i64 (cr), vcd]) rfl rfl rfl) rfl rfl rfl ?_
 rintro _ _ ⟨g1, rfl, rfl⟩
 refine G.stepD (OD.assign rfl rfl) rfl rfl rfl ?_
 refine G.nil (GE.then_ (GC.seq (GC.seq (GC.region ?_))))
 refine G.stepD (OD.loadAgg rfl ti28 rfl (i := 0) rfl (us := [.int .i64 (cr), vcd]) rfl rfl) rfl rfl rfl ?_
 refine G.stepD (OD.move rfl rfl) rfl rfl rfl ?_
 refine G.step (OG.call [.agg #[.int .i64 (cr), vcd], vword] ent44 rfl rfl rfl rfl (by exact (wordOk_w scd (Ent.drop 1 ecd) sword (Ent.drop 1 eword) (hl0) (by omega) ((Ent.drop 1 hg))))) rfl rfl rfl ?_
 rintro _ _ ⟨rfl, rfl⟩
 refine G.stepD (OD.not rfl rfl) rfl rfl rfl ?_
 refine G.nil (GE.then_ ?_)
 refine GC.cond rfl (fun hc2 => ?_) (fun hc2 => ?_)
 replace hc2 := eq_false_of_not hc2
 have hwb := hc2
 refine GC.seq (GC.region ?_)
 refine G.stepD (OD.assign rfl rfl) rfl rfl rfl ?_
 refine G.nil (GE.then_ (GC.ret (GE.passR ?_)))
 refine GE.many0 (ints 3) ?_
 refine GE.nilLst 22 ?_
 exact GE.body [0, 0] 1 (res1 rfl rfl) rfl (⟨(.slice none 0 0), [], rfl, IsS.nil, AllS.nil, (by rw [ivL, hwb] <;> rfl), congrArg (fun (l0 : List (List Int)) => lst 22 (.slice none 0 0) [] :: many (ints 3) [] l0 :: own) ((by rw [ivL, hwb] <;> rfl : [] = ivL cr cd word))⟩)
 replace hc2 := eq_true_of_not hc2
 have hwb := hc2
 obtain ⟨_, hw60, hwr⟩ := wordB_ok hwb
 have hS : (tyS cr cd).isSome = true := by have h := hwb; rw [wordB, Bool.and_eq_true] at h; exact h.1
 have hrs := (rtOk hS).slen
 have hrf := (rtOk hS).few
 have hrk := (rtOk hS).rk
 have hrl := (rtOk hS).lo
 have hfl : ∀ p, (((rSt cr cd).take p).filter (ivB cr cd word)).length ≤ 30 := fun p => by have h1 := List.length_filter_le (ivB cr cd word) ((rSt cr cd).take p); rw [List.length_take] at h1; omega
 refine GC.skip (GE.then_ (GC.seq (GC.region ?_)))
 refine G.step (OG.buildLst (xs := []) (us := []) rfl et26 rfl rfl rfl rfl rfl) rfl rfl rfl ?_
 rintro v3 _ ⟨hs4, rfl⟩
 refine G.stepD (OD.assign rfl rfl) rfl rfl rfl ?_
 refine G.nil (GE.then_ (GC.seq (GC.seq (GC.region ?_))))
 refine G.stepD (OD.loadAgg rfl ti28 rfl (i := 1) rfl (us := [.int .i64 (cr), vcd]) rfl rfl) rfl rfl rfl ?_
 refine G.step (OG.call [.agg #[.int .i64 (cr), vcd]] ent40 rfl rfl rfl rfl (by exact (newRoots_w scd (Ent.drop 2 ecd) ((tyS_ok hS).1) ((tyS_ok hS).2) (hS) ((Ent.drop 2 htab))))) rfl rfl rfl ?_
 rintro _ _ ⟨v5, u6, g10, rfl, hs7, hs8, hs9, rfl⟩
 refine G.stepD (OD.field (us := [.int .i64 (cr), vcd, v5, .map (some g10)]) rfl fd48_1 rfl rfl) rfl rfl rfl ?_
 refine G.stepD (OD.len rfl rfl et26 rfl (Ent.lst (i := 0) rfl)) rfl rfl rfl ?_
 refine G.stepD (OD.move rfl rfl) rfl rfl rfl ?_
 refine G.nil (GE.then_ (GC.block ?_))
 refine GC.many0 (ints 3) ?_
 refine GC.loop (ι := Nat × List Value × Value) (fun ⟨p, us, v⟩ => [(1, vword), (2, .pointer (some ⟨g1, 0, none⟩)), (15, v5), (16, .int .i64 ((u6.length : Nat))), (5, v), (17, .int .i64 ((p : Int)))]) (fun ⟨p, us, v⟩ => many (ints 3) us (((rSt cr cd).take p).filter (ivB cr cd word)) :: lst 22 v5 u6 :: many (ints 3) u6 (rSt cr cd) :: mapA keyL valI g10 (rKvs cr cd) :: lst 22 v us :: box g1 28 [.int .i64 (cr), vcd] :: own) (fun ⟨p, us, v⟩ => (p ≤ (rSt cr cd).length) ∧ (AllS us) ∧ (us.length = (((rSt cr cd).take p).filter (ivB cr cd word)).length) ∧ (IsS v)) (fun ⟨p, us, v⟩ => (rSt cr cd).length - p) (0, [], v3) (⟨by omega, AllS.nil, rfl, hs4⟩) ⟨rfl, rfl, rfl, rfl, rfl, rfl, trivial⟩ [] 0 rfl ?_
 rintro ⟨p, us, v⟩ ⟨hp, ha, hul, hv⟩
 refine GC.seq (GC.region ?_)
 refine G.stepD (OD.lss rfl rfl rfl) rfl rfl rfl ?_
 refine G.nil (GE.then_ (GC.seq ?_))
 refine GC.cond rfl (fun hc11 => ?_) (fun hc11 => ?_)
 replace hc11 := of_decide_eq_true hc11
 have hflp := hfl p
 have hxl := ((rtOk hS).sget (show p < (rSt cr cd).length by omega)).1
 have hrt := rt_arF hS (root_in hS (show p < (rSt cr cd).length by omega)).2.1 word hwr
 refine GC.skip (GE.then_ (GC.seq (GC.block (GC.seq (GC.region ?_)))))
 refine G.stepD (OD.indexAddr rfl et26 rfl (Ent.lst (i := 1) rfl) rfl (by omega)) rfl rfl rfl ?_
 refine G.stepD (OD.loadElem rfl ti22 rfl (Ent.lst (i := 1) rfl) (by omega) rfl) rfl rfl rfl ?_
 refine G.stepD (OD.assign rfl rfl) rfl rfl rfl ?_
 refine G.nil (GE.then_ (GC.seq (GC.region ?_)))
 refine G.stepD (OD.loadAgg rfl ti28 rfl (i := 5) rfl (us := [.int .i64 (cr), vcd]) rfl rfl) rfl rfl rfl ?_
 refine G.stepD (OD.move rfl rfl) rfl rfl rfl ?_
 refine G.stepD (OD.move rfl rfl) rfl rfl rfl ?_
 refine G.step (OG.call [.agg #[.int .i64 (cr), vcd], vword, (u6.getD (p) undef)] ent46 rfl rfl rfl rfl (by exact (actRoot_w scd (Ent.drop 6 ecd) sword (Ent.drop 6 eword) (hs8.get (by omega)) (Ent.manyInts (i := 2) rfl ⟨by first | omega | (simp; omega), by first | omega | (simp; omega)⟩) ((tyS_ok hS).1) ((tyS_ok hS).2) (⟨by omega, hwr⟩) (by omega)))) rfl rfl rfl ?_
 rintro v12 _ ⟨_, rfl, hs13, rfl⟩
 refine G.step (OG.call [v12] ent45 rfl rfl rfl rfl (by exact (sumOf_w hs13 (Ent.ints (i := 0) rfl) (by first | omega | (rw [arF_len]; omega))))) rfl rfl rfl ?_
 rintro _ _ ⟨rfl, rfl⟩
 refine G.stepD (OD.lss rfl rfl rfl) rfl rfl rfl ?_
 refine G.nil (GE.then_ ?_)
 refine GC.cond rfl (fun hc14 => ?_) (fun hc14 => ?_)
 replace hc14 := of_decide_eq_true hc14
 have hiv : ivB cr cd word ((rSt cr cd).getD p []) = true := decide_eq_true hc14
 refine GC.region ?_
 refine G.stepD (OD.move rfl rfl) rfl rfl rfl ?_
 refine G.stepD (OD.move rfl rfl) rfl rfl rfl ?_
 refine G.step (OG.call [(u6.getD (p) undef)] ent47 rfl rfl rfl rfl (by exact (clone_w (hs8.get (by omega)) (Ent.manyInts (i := 3) rfl ⟨by first | omega | (simp; omega), by first | omega | (simp; omega)⟩) (by first | omega | (rw [arF_len]; omega))))) rfl rfl rfl ?_
 rintro v15 _ ⟨_, rfl, hs16, rfl⟩
 refine G.step (OG.buildLst (xs := [.tmp 29]) (us := [v15]) rfl et26 rfl rfl rfl (allC (IsS.one hs16) rfl) rfl) rfl rfl rfl ?_
 rintro v17 _ ⟨hs18, rfl⟩
 refine G.step (OG.appendLst 7 rfl rfl et26 rfl rfl rfl (Ent.lst (i := 0) rfl) (List.all_eq_true.2 fun u hu => by simpa using (AllS.snoc AllS.nil hs16).one u hu) (by simp [maxLen] <;> omega)) rfl rfl rfl ?_
 rintro v19 _ ⟨hs20, rfl⟩
 refine G.stepD (OD.assign rfl rfl) rfl rfl rfl ?_
 refine G.nil (GE.blockN (GE.then_ (GC.region ?_)))
 refine G.stepD (OD.addI rfl rfl rfl (by omega)) rfl rfl rfl ?_
 refine G.stepD (OD.move rfl rfl) rfl rfl rfl ?_
 refine G.nil ?_
 refine GE.at [1, 2, 0, 0, 0, 0, 0, 0, 0] 0 (env' := [(1, vword), (2, .pointer (some ⟨g1, 0, none⟩)), (15, v5), (16, .int .i64 ((u6.length : Nat))), (18, .bool (decide ((p : Int) < (u6.length : Nat)))), (19, elemPtr v5 1 (p)), (20, (u6.getD (p) undef)), (7, (u6.getD (p) undef)), (21, .agg #[.int .i64 (cr), vcd]), (22, vword), (23, (u6.getD (p) undef)), (24, v12), (25, .int .i64 (sumW (arF cr cd word ((rSt cr cd).getD (p) [])))), (26, .bool (decide (sumW (arF cr cd word ((rSt cr cd).getD (p) [])) < 0))), (27, v), (28, (u6.getD (p) undef)), (29, v15), (30, v17), (31, v19), (5, v19), (32, .int .i64 ((p : Int) + 1)), (17, .int .i64 ((p : Int) + 1))]) ⟨rfl, rfl, rfl, rfl, rfl, rfl, rfl, rfl, rfl, rfl, rfl, rfl, rfl, rfl, rfl, rfl, rfl, rfl, rfl, rfl, rfl, rfl, trivial⟩ (own' := ints 3 v15 ((rSt cr cd).getD (p) []) :: many (ints 3) us (((rSt cr cd).take p).filter (ivB cr cd word)) :: lst 22 v17 [v15] :: ints 3 v12 (arF cr cd word ((rSt cr cd).getD (p) [])) :: lst 22 v5 u6 :: many (ints 3) u6 (rSt cr cd) :: mapA keyL valI g10 (rKvs cr cd) :: lst 22 v19 (us ++ [v15]) :: box g1 28 [.int .i64 (cr), vcd] :: own) rfl ?_
 refine GE.manyPush (by omega) ?_
 refine GE.ownEq (own' := many (ints 3) (us ++ [v15]) (((rSt cr cd).take (p + 1)).filter (ivB cr cd word)) :: lst 22 v17 [v15] :: ints 3 v12 (arF cr cd word ((rSt cr cd).getD (p) [])) :: lst 22 v5 u6 :: many (ints 3) u6 (rSt cr cd) :: mapA keyL valI g10 (rKvs cr cd) :: lst 22 v19 (us ++ [v15]) :: box g1 28 [.int .i64 (cr), vcd] :: own) (by (try dsimp only); rw [filter_yes (d := []) (by omega) hiv]) ?_
 exact GE.again (p + 1, us ++ [v15], v19) (⟨by omega, (ha.snoc hs16), by rw [← filter_yes (d := []) (by omega) hiv, List.length_append, List.length_append]; simp; omega, hs20⟩) (by first | omega | (dsimp only; omega)) ⟨rfl, rfl, rfl, rfl, rfl, rfl, trivial⟩ [0, 2, 2, 2, 2, 2] 2 rfl
 replace hc14 := of_decide_eq_false hc14
 have hiv : ivB cr cd word ((rSt cr cd).getD p []) = false := decide_eq_false hc14
 refine GC.skip (GE.blockN (GE.then_ (GC.region ?_)))
 refine G.stepD (OD.addI rfl rfl rfl (by omega)) rfl rfl rfl ?_
 refine G.stepD (OD.move rfl rfl) rfl rfl rfl ?_
 refine G.nil ?_
 refine GE.ownEq (own' := ints 3 v12 (arF cr cd word ((rSt cr cd).getD (p) [])) :: many (ints 3) us (((rSt cr cd).take (p + 1)).filter (ivB cr cd word)) :: lst 22 v5 u6 :: many (ints 3) u6 (rSt cr cd) :: mapA keyL valI g10 (rKvs cr cd) :: lst 22 v us :: box g1 28 [.int .i64 (cr), vcd] :: own) (by (try dsimp only); rw [filter_no (d := []) (by omega) hiv]) ?_
 exact GE.again (p + 1, us, v) (⟨by omega, ha, by rw [← filter_no (d := []) (by omega) hiv]; omega, hv⟩) (by first | omega | (dsimp only; omega)) ⟨rfl, rfl, rfl, rfl, rfl, rfl, trivial⟩ [1, 1, 1, 1, 1, 1] 1 rfl
 replace hc11 := of_decide_eq_false hc11
 refine GC.exit (GE.pass (GE.pass (GE.hit (GE.then_ (GC.seq (GC.region ?_))))))
 refine G.stepD (OD.move rfl rfl) rfl rfl rfl ?_
 refine G.stepD (OD.assign rfl rfl) rfl rfl rfl ?_
 refine G.nil (GE.then_ (GC.ret ?_))
 exact GE.body [4, 0] 4 (res1 rfl rfl) rfl (⟨v, us, rfl, hv, ha, (by rw [ivL, if_pos hwb, ← List.take_of_length_le (show (rSt cr cd).length ≤ p by omega)]; exact hul), congrArg (fun (l0 : List (List Int)) => lst 22 v us :: many (ints 3) us l0 :: own) ((by rw [ivL, if_pos hwb, List.take_of_length_le (by omega)] : ((rSt cr cd).take p).filter (ivB cr cd word) = ivL cr cd word))⟩)

set_option maxHeartbeats 4000000 in
set_option maxRecDepth 100000 in
theorem specInversionsOf_w {W : World} {own : List Asn} {cr : Int} {vcd : Value} {cd : List Int} {vword : Value} {word : List Int}  (scd : IsS vcd) (ecd : Ent own fun w => Ints w vcd cd)   (sword : IsS vword) (eword : Ent own fun w => Ints w vword word)  (hl0 : cd.length ≤ 1073741824) (hlw : word.length ≤ 1073741824) : Spec Tryz.prog 19 [.agg #[.int .i64 (cr), vcd], vword] W own (fun v ow => ∃ (r0 : Value) (u0 : List Value), v = r0 ∧ IsS r0 ∧ AllS u0 ∧ u0.length = (ivL cr cd word).length ∧ ow = lst 22 r0 u0 :: many (ints 3) u0 (ivL cr cd word) :: own) := by
 refine Spec.enter Tryz.f19 _ Tryz.func19 rfl (n := 38) rfl rfl ?_
 refine GC.seq (GC.region ?_)
 refine G.step (OG.box (cs := [.int .i64 (cr), vcd]) rfl rfl rfl) rfl rfl rfl ?_
 rintro _ _ ⟨g1, rfl, rfl⟩
 refine G.stepD (OD.assign rfl rfl) rfl rfl rfl ?_
 refine G.nil (GE.then_ (GC.seq (GC.seq (GC.region ?_))))
 refine G.stepD (OD.loadAgg rfl ti28 rfl (i := 0) rfl (us := [.int .i64 (cr), vcd]) rfl rfl) rfl rfl rfl ?_
 refine G.stepD (OD.move rfl rfl) rfl rfl rfl ?_
 refine G.step (OG.call [.agg #[.int .i64 (cr), vcd], vword] ent41 rfl rfl rfl rfl (by exact (specWordOk_w scd (Ent.drop 1 ecd) sword (Ent.drop 1 eword) (hl0) (by omega)))) rfl rfl rfl ?_
 rintro _ _ ⟨rfl, rfl⟩
 refine G.stepD (OD.not rfl rfl) rfl rfl rfl ?_
 refine G.nil (GE.then_ ?_)
 refine GC.cond rfl (fun hc2 => ?_) (fun hc2 => ?_)
 replace hc2 := eq_false_of_not hc2
 have hwb := hc2
 refine GC.seq (GC.region ?_)
 refine G.stepD (OD.assign rfl rfl) rfl rfl rfl ?_
 refine G.nil (GE.then_ (GC.ret (GE.passR ?_)))
 skip
 refine GE.many0 (ints 3) ?_
 refine GE.nilLst 22 ?_
 exact GE.body [0, 0] 1 (res1 rfl rfl) rfl (⟨(.slice none 0 0), [], rfl, IsS.nil, AllS.nil, (by rw [ivL, hwb] <;> rfl), congrArg (fun (l0 : List (List Int)) => lst 22 (.slice none 0 0) [] :: many (ints 3) [] l0 :: own) ((by rw [ivL, hwb] <;> rfl : [] = ivL cr cd word))⟩)
 replace hc2 := eq_true_of_not hc2
 have hwb := hc2
 obtain ⟨_, hw60, hwr⟩ := wordB_ok hwb
 have hS : (tyS cr cd).isSome = true := by have h := hwb; rw [wordB, Bool.and_eq_true] at h; exact h.1
 have hrs := (rtOk hS).slen
 have hrf := (rtOk hS).few
 have hrk := (rtOk hS).rk
 have hrl := (rtOk hS).lo
 have hfl : ∀ p, (((rSt cr cd).take p).filter (ivB cr cd word)).length ≤ 30 := fun p => by have h1 := List.length_filter_le (ivB cr cd word) ((rSt cr cd).take p); rw [List.length_take] at h1; omega
 refine GC.skip (GE.then_ (GC.seq (GC.region ?_)))
 refine G.stepD (OD.loadAgg rfl ti28 rfl (i := 0) rfl (us := [.int .i64 (cr), vcd]) rfl rfl) rfl rfl rfl ?_
 refine G.step (OG.call [.agg #[.int .i64 (cr), vcd]] ent37 rfl rfl rfl rfl (by exact (l5Roots_w scd (Ent.drop 1 ecd) ((tyS_ok hS).1) ((tyS_ok hS).2) (hS)))) rfl rfl rfl ?_
 rintro v3 _ ⟨_, u4, rfl, hs5, hs6, hs7, rfl⟩
 refine G.stepD (OD.assign rfl rfl) rfl rfl rfl ?_
 refine G.nil (GE.then_ (GC.seq (GC.region ?_)))
 refine G.step (OG.buildLst (xs := []) (us := []) rfl et26 rfl rfl rfl rfl rfl) rfl rfl rfl ?_
 rintro v8 _ ⟨hs9, rfl⟩
 refine G.stepD (OD.assign rfl rfl) rfl rfl rfl ?_
 refine G.nil (GE.then_ (GC.seq (GC.seq (GC.region ?_))))
 refine G.stepD (OD.assign rfl rfl) rfl rfl rfl ?_
 refine G.nil (GE.then_ (GC.block ?_))
 refine GC.loop (ι := Nat × List Value × Value) (fun ⟨p, vs, z⟩ => [(1, vword), (2, .pointer (some ⟨g1, 0, none⟩)), (5, v3), (6, z), (7, .int .i64 ((p : Int)))]) (fun ⟨p, vs, z⟩ => lst 22 z vs :: lst 22 v3 u4 :: many (ints 3) u4 (rSt cr cd) :: box g1 28 [.int .i64 (cr), vcd] :: own) (fun ⟨p, vs, z⟩ => (p ≤ (rSt cr cd).length) ∧ (AllS vs) ∧ (vs.length = (((rSt cr cd).take p).filter (ivB cr cd word)).length) ∧ ((vs.zip (((rSt cr cd).take p).filter (ivB cr cd word))).Sublist ((u4.zip (rSt cr cd)).take p)) ∧ (IsS z)) (fun ⟨p, vs, z⟩ => (rSt cr cd).length - p) (0, [], v8) (⟨by omega, AllS.nil, rfl, by simp, hs9⟩) ⟨rfl, rfl, rfl, rfl, rfl, trivial⟩ [] 0 rfl ?_
 rintro ⟨p, vs, z⟩ ⟨hp, hc, hvl, hsub, hz⟩
 refine GC.seq (GC.seq (GC.region ?_))
 refine G.stepD (OD.move rfl rfl) rfl rfl rfl ?_
 refine G.stepD (OD.move rfl rfl) rfl rfl rfl ?_
 refine G.stepD (OD.len rfl rfl et26 rfl (Ent.lst (i := 1) rfl)) rfl rfl rfl ?_
 refine G.stepD (OD.lss rfl rfl rfl) rfl rfl rfl ?_
 refine G.nil (GE.then_ ?_)
 refine GC.cond rfl (fun hc10 => ?_) (fun hc10 => ?_)
 replace hc10 := of_decide_eq_true hc10
 have hflp := hfl p
 have hxl := ((rtOk hS).sget (show p < (rSt cr cd).length by omega)).1
 have hrt := rt_arF hS (root_in hS (show p < (rSt cr cd).length by omega)).2.1 word hwr
 refine GC.skip (GE.then_ (GC.seq (GC.block (GC.seq ?_))))
 refine GC.at [] 0 (env' := [(1, vword), (2, .pointer (some ⟨g1, 0, none⟩)), (5, v3), (6, z), (7, .int .i64 ((p : Int)))]) ⟨rfl, rfl, rfl, rfl, rfl, trivial⟩ rfl ?_
 refine GC.par (its := [⟨21, [], [], [], [], fun _ => .agg #[.int .i64 (cr), vcd], fun _ => True, fun _ => []⟩,
     ⟨22, [], [], [], [], fun _ => vword, fun _ => True, fun _ => []⟩,
     ⟨23, [], [], [], [], fun _ => v3, fun _ => True, fun _ => []⟩,
     ⟨24, [], [], [], [], fun _ => .int .i64 ((p : Int)), fun _ => True, fun _ => []⟩,
     ⟨25, [(2, 23), (3, 24)], [], [], [], fun _ => elemPtr v3 1 (p), fun _ => True, fun _ => []⟩,
     ⟨26, [(4, 25)], [], [], [], fun _ => (u4.getD (p) undef), fun _ => True, fun _ => []⟩,
     ⟨27, [(0, 21), (1, 22), (5, 26)], [], [], [6], fun ds => ((ds.getD 0 []).getD 0 undef), fun ds => IsS ((ds.getD 0 []).getD 0 undef), fun ds => [ints 3 ((ds.getD 0 []).getD 0 undef) (arF cr cd word ((rSt cr cd).getD (p) []))]⟩,
     ⟨28, [(6, 27)], [6], [], [6], fun _ => .bool (posL (arF cr cd word ((rSt cr cd).getD (p) []))), fun _ => True, fun _ => []⟩,
     ⟨29, [(7, 28)], [6], [], [6], fun _ => .bool (!(posL (arF cr cd word ((rSt cr cd).getD (p) [])))), fun _ => True, fun _ => []⟩]) (by kernel_rfl) (by kernel_rfl) (POps.cons ?_ (POps.cons ?_ (POps.cons ?_ (POps.cons ?_ (POps.cons ?_ (POps.cons ?_ (POps.cons ?_ (POps.cons ?_ (POps.cons ?_ POps.nil))))))))) ?_
 intro θ R hd
 exact Opp.plain (OG.imp (OD.loadAgg rfl ti28 rfl (i := 3) rfl (us := [.int .i64 (cr), vcd]) rfl rfl) (by rintro _ _ ⟨rfl, rfl⟩; exact ⟨[], rfl, trivial, rfl⟩)) rfl
 intro θ R hd
 exact Opp.plain (OG.imp (OD.move rfl rfl) (by rintro _ _ ⟨rfl, rfl⟩; exact ⟨[], rfl, trivial, rfl⟩)) rfl
 intro θ R hd
 exact Opp.plain (OG.imp (OD.move rfl rfl) (by rintro _ _ ⟨rfl, rfl⟩; exact ⟨[], rfl, trivial, rfl⟩)) rfl
 intro θ R hd
 exact Opp.plain (OG.imp (OD.move rfl rfl) (by rintro _ _ ⟨rfl, rfl⟩; exact ⟨[], rfl, trivial, rfl⟩)) rfl
 intro θ R hd
 obtain ⟨h2d, h3d, _⟩ := hd
 exact Opp.plain (OG.imp (OD.indexAddr rfl et26 rfl (Ent.lst (i := 1) rfl) rfl (by omega)) (by rintro _ _ ⟨rfl, rfl⟩; exact ⟨[], rfl, trivial, rfl⟩)) rfl
 intro θ R hd
 obtain ⟨h4d, _⟩ := hd
 exact Opp.plain (OG.imp (OD.loadElem rfl ti22 rfl (Ent.lst (i := 1) rfl) (by omega) rfl) (by rintro _ _ ⟨rfl, rfl⟩; exact ⟨[], rfl, trivial, rfl⟩)) rfl
 intro θ R hd
 obtain ⟨h0d, h1d, h5d, _⟩ := hd
 exact Opp.plain (OG.imp (OG.call [.agg #[.int .i64 (cr), vcd], vword, (u4.getD (p) undef)] ent43 rfl rfl rfl rfl (by exact (l6ActRoot_w scd (Ent.drop 4 ecd.app) sword (Ent.drop 4 eword.app) (hs6.get (by omega)) (Ent.manyInts (i := 2) rfl ⟨by first | omega | (simp; omega), by first | omega | (simp; omega)⟩) ((tyS_ok hS).1) ((tyS_ok hS).2) (⟨by omega, hwr⟩) (by omega)))) (by rintro v11 _ ⟨_, rfl, hs12, rfl⟩; exact ⟨[v11], rfl, hs12, rfl⟩)) rfl
 intro θ R hd
 obtain ⟨h6d, _⟩ := hd
 exact Opp.plain (OG.imp (OG.call [((θ 6).getD 0 undef)] ent42 rfl rfl rfl rfl (by exact (l5Positive_w h6d (Ent.ints (i := 0) rfl) (by first | omega | (rw [arF_len]; omega))))) (by rintro _ _ ⟨rfl, rfl⟩; exact ⟨[], rfl, trivial, rfl⟩)) rfl
 intro θ R hd
 obtain ⟨h7d, _⟩ := hd
 exact Opp.plain (OG.imp (OD.not rfl rfl) (by rintro _ _ ⟨rfl, rfl⟩; exact ⟨[], rfl, trivial, rfl⟩)) rfl
 intro θ hall
 obtain ⟨_, _, _, _, _, _, h6a, _, _, _⟩ := hall
 refine G.at [] 0 (env' := [(1, vword), (2, .pointer (some ⟨g1, 0, none⟩)), (5, v3), (6, z), (7, .int .i64 ((p : Int))), (29, .bool (!(posL (arF cr cd word ((rSt cr cd).getD (p) [])))))]) ⟨rfl, rfl, rfl, rfl, rfl, rfl, trivial⟩ (own' := ints 3 ((θ 6).getD 0 undef) (arF cr cd word ((rSt cr cd).getD (p) [])) :: lst 22 z vs :: lst 22 v3 u4 :: many (ints 3) u4 (rSt cr cd) :: box g1 28 [.int .i64 (cr), vcd] :: own) rfl ?_
 have hs13 : IsS ((θ 6).getD 0 undef) := h6a
 clear h6a
 generalize ((θ 6).getD 0 undef) = v14 at *
 show G _ _ _ [] _ _ _ _
 refine G.nil (GE.then_ ?_)
 refine GC.cond rfl (fun hc15 => ?_) (fun hc15 => ?_)
 replace hc15 := eq_false_of_not hc15
 have hiv : ivB cr cd word ((rSt cr cd).getD p []) = true := (rt_below hS hrt).trans (by rw [hc15]; rfl)
 refine GC.region ?_
 refine G.stepD (OD.move rfl rfl) rfl rfl rfl ?_
 refine G.stepD (OD.move rfl rfl) rfl rfl rfl ?_
 refine G.stepD (OD.move rfl rfl) rfl rfl rfl ?_
 refine G.stepD (OD.indexAddr rfl et26 rfl (Ent.lst (i := 2) rfl) rfl (by omega)) rfl rfl rfl ?_
 refine G.stepD (OD.loadElem rfl ti22 rfl (Ent.lst (i := 2) rfl) (by omega) rfl) rfl rfl rfl ?_
 refine G.step (OG.buildLst (xs := [.tmp 34]) (us := [(u4.getD (p) undef)]) rfl et26 rfl rfl rfl (allC (IsS.one (hs6.get (by omega))) rfl) rfl) rfl rfl rfl ?_
 rintro v16 _ ⟨hs17, rfl⟩
 refine G.step (OG.appendLst 2 rfl rfl et26 rfl rfl rfl (Ent.lst (i := 0) rfl) (List.all_eq_true.2 fun u hu => by simpa using (AllS.snoc AllS.nil (hs6.get (by omega))).one u hu) (by simp [maxLen] <;> omega)) rfl rfl rfl ?_
 rintro v18 _ ⟨hs19, rfl⟩
 refine G.stepD (OD.assign rfl rfl) rfl rfl rfl ?_
 refine G.nil (GE.blockN (GE.then_ (GC.region ?_)))
 refine G.stepD (OD.move rfl rfl) rfl rfl rfl ?_
 refine G.stepD (OD.addI rfl rfl rfl (by omega)) rfl rfl rfl ?_
 refine G.stepD (OD.assign rfl rfl) rfl rfl rfl ?_
 refine G.nil ?_
 exact GE.again (p + 1, vs ++ [(u4.getD (p) undef)], v18) (⟨by omega, (hc.snoc (hs6.get (by omega))), by rw [← filter_yes (d := []) (by omega) hiv, List.length_append, List.length_append]; simp; omega, by rw [← filter_yes (d := []) (by omega) hiv]; exact zip_sub_yes hs7 hvl (by omega) hsub, hs19⟩) (by first | omega | (dsimp only; omega)) ⟨rfl, rfl, rfl, rfl, rfl, trivial⟩ [2, 2, 2, 2] 2 rfl
 replace hc15 := eq_true_of_not hc15
 have hiv : ivB cr cd word ((rSt cr cd).getD p []) = false := (rt_below hS hrt).trans (by rw [hc15]; rfl)
 refine GC.skip (GE.blockN (GE.then_ (GC.region ?_)))
 refine G.stepD (OD.move rfl rfl) rfl rfl rfl ?_
 refine G.stepD (OD.addI rfl rfl rfl (by omega)) rfl rfl rfl ?_
 refine G.stepD (OD.assign rfl rfl) rfl rfl rfl ?_
 refine G.nil ?_
 exact GE.again (p + 1, vs, z) (⟨by omega, hc, by rw [← filter_no (d := []) (by omega) hiv]; omega, by rw [← filter_no (d := []) (by omega) hiv]; exact zip_sub_no hsub, hz⟩) (by first | omega | (dsimp only; omega)) ⟨rfl, rfl, rfl, rfl, rfl, trivial⟩ [1, 1, 1, 1] 1 rfl
 replace hc10 := of_decide_eq_false hc10
 refine GC.exit (GE.pass (GE.pass (GE.hit (GE.then_ (GC.seq (GC.region ?_))))))
 refine G.stepD (OD.move rfl rfl) rfl rfl rfl ?_
 refine G.stepD (OD.assign rfl rfl) rfl rfl rfl ?_
 refine G.nil (GE.then_ (GC.ret ?_))
 refine GE.at [2, 0, 0, 0] 0 (env' := [(1, vword), (2, .pointer (some ⟨g1, 0, none⟩)), (5, v3), (6, z), (7, .int .i64 ((p : Int))), (15, .int .i64 ((p : Int))), (16, v3), (17, .int .i64 ((u4.length : Nat))), (18, .bool (decide ((p : Int) < (u4.length : Nat)))), (37, z), (4, z)]) ⟨rfl, rfl, rfl, rfl, rfl, rfl, rfl, rfl, rfl, rfl, rfl, trivial⟩ (own' := many (ints 3) u4 (rSt cr cd) :: lst 22 z vs :: lst 22 v3 u4 :: box g1 28 [.int .i64 (cr), vcd] :: own) rfl ?_
 refine GE.manySub (us := vs) (ys := ((rSt cr cd).take p).filter (ivB cr cd word)) (hsub.trans (List.take_sublist _ _)) ?_
 skip
 exact GE.body [1, 0] 2 (res1 rfl rfl) rfl (⟨z, vs, rfl, hz, hc, (by rw [ivL, if_pos hwb, ← List.take_of_length_le (show (rSt cr cd).length ≤ p by omega)]; exact hvl), congrArg (fun (l0 : List (List Int)) => lst 22 z vs :: many (ints 3) vs l0 :: own) ((by rw [ivL, if_pos hwb, List.take_of_length_le (by omega)] : ((rSt cr cd).take p).filter (ivB cr cd word) = ivL cr cd word))⟩)

set_option maxHeartbeats 4000000 in
set_option maxRecDepth 100000 in
theorem lawInversionsOf {W : World} {own : List Asn} {cr : Int} {vcd : Value} {cd : List Int} {vword : Value} {word : List Int}  (scd : IsS vcd) (ecd : Ent own fun w => Ints w vcd cd)   (sword : IsS vword) (eword : Ent own fun w => Ints w vword word)  (hcd : cd.length ≤ 9223372036854775807) (hword : word.length ≤ 9223372036854775807) (h64 : All64 word) (hg : Ent own fun w => ∃ m, w.cell? ⟨Tryz.l146_ren.g 1, 0, none⟩ = some (.int .i64 m)) (htab : Ent own Pow10) : Spec Tryz.prog 4 [.agg #[.int .i64 (cr), vcd], vword] W own (fun v ow => v = .bool (true) ∧ ow = own) := by
 have hR1 := ivL_len cr cd word
 have hR2 : ∀ k, k < (ivL cr cd word).length → ((ivL cr cd word).getD k []).length ≤ 1000 := fun k hk => Nat.le_trans (getD_ent (fun x hx => ivL_ent hx) k hk) (by decide)
 refine Spec.enter Tryz.f4 _ Tryz.func4 rfl (n := 90) rfl rfl ?_
 refine GC.seq (GC.region ?_)
 refine G.step (OG.box (cs := [.int .i64 (cr), vcd]) rfl rfl rfl) rfl rfl rfl ?_
 rintro _ _ ⟨g1, rfl, rfl⟩
 refine G.stepD (OD.assign rfl rfl) rfl rfl rfl ?_
 refine G.nil (GE.then_ (GC.seq (GC.seq (GC.region ?_))))
 refine G.stepD (OD.move rfl rfl) rfl rfl rfl ?_
 refine G.stepD (OD.len rfl rfl et22 rfl (Ent.drop 1 eword)) rfl rfl rfl ?_
 refine G.stepD (OD.gtr rfl rfl rfl) rfl rfl rfl ?_
 refine G.nil (GE.then_ ?_)
 refine GC.cond rfl (fun hc2 => ?_) (fun hc2 => ?_)
 replace hc2 := of_decide_eq_true hc2
 refine GC.seq (GC.region ?_)
 refine G.stepD (OD.assign rfl rfl) rfl rfl rfl ?_
 refine G.nil (GE.then_ (GC.ret (GE.passR ?_)))
 exact GE.body [] 1 (res1 rfl rfl) rfl (⟨rfl, rfl⟩)
 replace hc2 := of_decide_eq_false hc2
 refine GC.skip (GE.then_ (GC.seq (GC.region ?_)))
 refine G.stepD (OD.assign rfl rfl) rfl rfl rfl ?_
 refine G.nil (GE.then_ (GC.seq (GC.region ?_)))
 refine G.stepD (OD.loadAgg rfl ti24 rfl (i := 0) rfl (us := [.int .i64 (cr), vcd]) rfl rfl) rfl rfl rfl ?_
 refine G.stepD (OD.move rfl rfl) rfl rfl rfl ?_
 refine G.step (OG.call [.agg #[.int .i64 (cr), vcd], .int .i64 (1048576)] ent10 rfl rfl rfl rfl (by exact (szCartan_s scd (Ent.drop 1 ecd) (by omega) (by omega)))) rfl rfl rfl ?_
 rintro _ _ ⟨rfl, rfl⟩
 refine G.stepD (OD.assign rfl rfl) rfl rfl rfl ?_
 refine G.nil (GE.then_ (GC.seq (GC.seq (GC.region ?_))))
 refine G.stepD (OD.move rfl rfl) rfl rfl rfl ?_
 refine G.stepD (OD.lss rfl rfl rfl) rfl rfl rfl ?_
 refine G.nil (GE.then_ ?_)
 refine GC.cond rfl (fun hc3 => ?_) (fun hc3 => ?_)
 replace hc3 := of_decide_eq_true hc3
 refine GC.seq (GC.region ?_)
 refine G.stepD (OD.assign rfl rfl) rfl rfl rfl ?_
 refine G.nil (GE.then_ (GC.ret (GE.passR ?_)))
 exact GE.body [] 1 (res1 rfl rfl) rfl (⟨rfl, rfl⟩)
 replace hc3 := of_decide_eq_false hc3
 have hc3z := szG_ok hc3
 refine GC.skip (GE.then_ (GC.seq (GC.region ?_)))
 refine G.stepD (OD.loadAgg rfl ti24 rfl (i := 0) rfl (us := [.int .i64 (cr), vcd]) rfl rfl) rfl rfl rfl ?_
 refine G.step (OG.call [.agg #[.int .i64 (cr), vcd]] ent12 rfl rfl rfl rfl (by exact (toCartan_s scd (Ent.drop 1 ecd) (by omega)))) rfl rfl rfl ?_
 rintro _ _ ⟨v4, rfl, hs5, rfl⟩
 refine G.stepD (OD.move rfl rfl) rfl rfl rfl ?_
 refine G.step (OG.call [vword] ent20 rfl rfl rfl rfl (by exact (toIntS_s sword (Ent.drop 2 eword) (by omega)))) rfl rfl rfl ?_
 rintro v6 _ ⟨_, rfl, hs7, rfl⟩
 refine G.step (OG.call [.agg #[.int .i64 (cr), v4], v6] ent19 rfl rfl rfl rfl (by exact (specInversionsOf_w hs5 (Ent.ints (i := 1) rfl) hs7 (Ent.ints (i := 0) rfl) (by omega) (by omega)))) rfl rfl rfl ?_
 rintro v8 _ ⟨_, u9, rfl, hs10, hs11, hs12, rfl⟩
 refine G.stepD (OD.assign rfl rfl) rfl rfl rfl ?_
 refine G.nil (GE.then_ (GC.seq (GC.region ?_)))
 refine G.stepD (OD.loadAgg rfl ti24 rfl (i := 4) rfl (us := [.int .i64 (cr), vcd]) rfl rfl) rfl rfl rfl ?_
 refine G.step (OG.call [.agg #[.int .i64 (cr), vcd]] ent12 rfl rfl rfl rfl (by exact (toCartan_s scd (Ent.drop 5 ecd) (by omega)))) rfl rfl rfl ?_
 rintro _ _ ⟨v13, rfl, hs14, rfl⟩
 refine G.step (OG.alloc rfl ti28 (zs := [.int .i64 (0), .slice none 0 0]) rfl) rfl rfl rfl ?_
 rintro _ _ ⟨g15, rfl, rfl⟩
 refine G.stepD0 (OD.store rfl ti28 rfl rfl (us := [.int .i64 (cr), v13]) rfl rfl (allC rfl (allC (IsS.one hs14) rfl)) (i := 0) rfl rfl) rfl rfl ?_
 refine G.nil (GE.then_ (GC.seq (GC.region ?_)))
 refine G.stepD (OD.move rfl rfl) rfl rfl rfl ?_
 refine G.step (OG.call [vword] ent20 rfl rfl rfl rfl (by exact (toIntS_s sword (Ent.drop 7 eword) (by omega)))) rfl rfl rfl ?_
 rintro v16 _ ⟨_, rfl, hs17, rfl⟩
 refine G.stepD (OD.assign rfl rfl) rfl rfl rfl ?_
 refine G.nil (GE.then_ (GC.seq (GC.region ?_)))
 refine G.stepD (OD.loadAgg rfl ti28 rfl (i := 1) rfl (us := [.int .i64 (cr), v13]) rfl rfl) rfl rfl rfl ?_
 refine G.stepD (OD.move rfl rfl) rfl rfl rfl ?_
 refine G.step (OG.call [.agg #[.int .i64 (cr), v13], v16] ent21 rfl rfl rfl rfl (by exact (inversionsOf_w hs14 (Ent.ints (i := 2) rfl) hs17 (Ent.ints (i := 0) rfl) (by omega) (by omega) ((Ent.drop 8 hg)) ((Ent.drop 8 htab))))) rfl rfl rfl ?_
 rintro v18 _ ⟨_, u19, rfl, hs20, hs21, hs22, rfl⟩
 refine G.stepD (OD.assign rfl rfl) rfl rfl rfl ?_
 refine G.nil (GE.then_ (GC.seq (GC.seq (GC.region ?_))))
 refine G.stepD (OD.move rfl rfl) rfl rfl rfl ?_
 refine G.stepD (OD.move rfl rfl) rfl rfl rfl ?_
 refine G.step (OG.call [v18, v8] ent14 rfl rfl rfl rfl (by exact (eqIntSS_same hs20 (Ent.len (Ent.lst (i := 0) rfl) (by omega)) (fun k hk => Ent.manyInts (i := 1) (k := k) rfl ⟨by omega, hk⟩) (by omega) hs21 hs10 (Ent.len (Ent.lst (i := 5) rfl) (by omega)) (fun k hk => Ent.manyInts (i := 6) (k := k) rfl ⟨by omega, hk⟩) (by omega) hs11 (by omega) (hR2)))) rfl rfl rfl ?_
 rintro _ _ ⟨rfl, rfl⟩
 refine G.stepD (OD.not rfl rfl) rfl rfl rfl ?_
 refine G.nil (GE.then_ (GC.condF rfl (GC.skip (GE.then_ (GC.seq (GC.seq ?_))))))
 refine GC.at [] 0 (env' := [(1, vword), (2, .pointer (some ⟨g1, 0, none⟩)), (6, v8), (7, .pointer (some ⟨g15, 0, none⟩)), (8, v16), (9, v18)]) ⟨rfl, rfl, rfl, rfl, rfl, rfl, trivial⟩ rfl ?_
 refine GC.par (its := [⟨38, [], [], [], [], fun _ => .agg #[.int .i64 (cr), v13], fun _ => True, fun _ => []⟩,
     ⟨39, [], [], [], [], fun _ => .agg #[.int .i64 (cr), vcd], fun _ => True, fun _ => []⟩,
     ⟨40, [(1, 39)], [], [], [2], fun ds => .agg #[.int .i64 (cr), ((ds.getD 0 []).getD 0 undef)], fun ds => IsS ((ds.getD 0 []).getD 0 undef), fun ds => [ints 3 ((ds.getD 0 []).getD 0 undef) cd]⟩,
     ⟨41, [(0, 38), (2, 40)], [2], [], [2], fun _ => .bool true, fun _ => True, fun _ => []⟩,
     ⟨42, [(3, 41)], [2], [], [2], fun _ => .bool false, fun _ => True, fun _ => []⟩]) (by kernel_rfl) (by kernel_rfl) (POps.cons ?_ (POps.cons ?_ (POps.cons ?_ (POps.cons ?_ (POps.cons ?_ POps.nil))))) ?_
 intro θ R hd
 exact Opp.plain (OG.imp (OD.loadAgg rfl ti28 rfl (i := 3) rfl (us := [.int .i64 (cr), v13]) rfl rfl) (by rintro _ _ ⟨rfl, rfl⟩; exact ⟨[], rfl, trivial, rfl⟩)) rfl
 intro θ R hd
 exact Opp.plain (OG.imp (OD.loadAgg rfl ti24 rfl (i := 9) rfl (us := [.int .i64 (cr), vcd]) rfl rfl) (by rintro _ _ ⟨rfl, rfl⟩; exact ⟨[], rfl, trivial, rfl⟩)) rfl
 intro θ R hd
 obtain ⟨h1d, _⟩ := hd
 exact Opp.plain (OG.imp (OG.call [.agg #[.int .i64 (cr), vcd]] ent12 rfl rfl rfl rfl (by exact (toCartan_s scd (Ent.drop 10 ecd.app) (by omega)))) (by rintro _ _ ⟨v23, rfl, hs24, rfl⟩; exact ⟨[v23], rfl, hs24, rfl⟩)) rfl
 intro θ R hd
 obtain ⟨h0d, h2d, _⟩ := hd
 exact Opp.plain (OG.imp (OG.call [.agg #[.int .i64 (cr), v13], .agg #[.int .i64 (cr), ((θ 2).getD 0 undef)]] ent15 rfl rfl rfl rfl (by exact (eqCartan_same hs14 (Ent.ints (i := 5) rfl) h2d (Ent.ints (i := 0) rfl) (by omega)))) (by rintro _ _ ⟨rfl, rfl⟩; exact ⟨[], rfl, trivial, rfl⟩)) rfl
 intro θ R hd
 obtain ⟨h3d, _⟩ := hd
 exact Opp.plain (OG.imp (OD.not rfl rfl) (by rintro _ _ ⟨rfl, rfl⟩; exact ⟨[], rfl, trivial, rfl⟩)) rfl
 intro θ hall
 obtain ⟨_, _, h2a, _, _, _⟩ := hall
 refine G.at [] 0 (env' := [(1, vword), (2, .pointer (some ⟨g1, 0, none⟩)), (6, v8), (7, .pointer (some ⟨g15, 0, none⟩)), (8, v16), (9, v18), (42, .bool false)]) ⟨rfl, rfl, rfl, rfl, rfl, rfl, rfl, trivial⟩ (own' := ints 3 ((θ 2).getD 0 undef) cd :: lst 22 v18 u19 :: many (ints 3) u19 (ivL cr cd word) :: ints 3 v16 word :: box g15 28 [.int .i64 (cr), v13] :: ints 3 v13 cd :: lst 22 v8 u9 :: many (ints 3) u9 (ivL cr cd word) :: ints 3 v6 word :: ints 3 v4 cd :: box g1 24 [.int .i64 (cr), vcd] :: own) rfl ?_
 have hs25 : IsS ((θ 2).getD 0 undef) := h2a
 clear h2a
 generalize ((θ 2).getD 0 undef) = v26 at *
 show G _ _ _ [] _ _ _ _
 refine G.nil (GE.then_ (GC.condF rfl (GC.skip (GE.then_ (GC.seq (GC.seq (GC.region ?_)))))))
 refine G.stepD (OD.move rfl rfl) rfl rfl rfl ?_
 refine G.stepD (OD.move rfl rfl) rfl rfl rfl ?_
 refine G.step (OG.call [vword] ent20 rfl rfl rfl rfl (by exact (toIntS_s sword (Ent.drop 11 eword) (by omega)))) rfl rfl rfl ?_
 rintro v27 _ ⟨_, rfl, hs28, rfl⟩
 refine G.step (OG.call [v16, v27] ent22 rfl rfl rfl rfl (by exact (eqIntS_same hs17 (Ent.ints (i := 4) rfl) hs28 (Ent.ints (i := 0) rfl) (by omega)))) rfl rfl rfl ?_
 rintro _ _ ⟨rfl, rfl⟩
 refine G.stepD (OD.not rfl rfl) rfl rfl rfl ?_
 refine G.nil (GE.then_ (GC.condF rfl (GC.skip (GE.then_ (GC.seq (GC.region ?_))))))
 refine G.stepD (OD.assign rfl rfl) rfl rfl rfl ?_
 refine G.nil (GE.then_ (GC.seq (GC.region ?_)))
 refine G.stepD (OD.loadAgg rfl ti28 rfl (i := 5) rfl (us := [.int .i64 (cr), v13]) rfl rfl) rfl rfl rfl ?_
 refine G.stepD (OD.move rfl rfl) rfl rfl rfl ?_
 refine G.at [6] 0 (env' := [(1, vword), (2, .pointer (some ⟨g1, 0, none⟩)), (6, v8), (7, .pointer (some ⟨g15, 0, none⟩)), (8, v16), (9, v18), (42, .bool false), (43, v16), (44, vword), (45, v27), (46, .bool true), (47, .bool false), (10, .int .i64 (1)), (48, .agg #[.int .i64 (cr), v13]), (49, .int .i64 (1))]) ⟨rfl, rfl, rfl, rfl, rfl, rfl, rfl, rfl, rfl, rfl, rfl, rfl, rfl, rfl, rfl, trivial⟩ (own' := ints 3 v13 cd :: ints 3 v27 word :: ints 3 v26 cd :: lst 22 v18 u19 :: many (ints 3) u19 (ivL cr cd word) :: ints 3 v16 word :: box g15 28 [.int .i64 (cr), v13] :: lst 22 v8 u9 :: many (ints 3) u9 (ivL cr cd word) :: ints 3 v6 word :: ints 3 v4 cd :: box g1 24 [.int .i64 (cr), vcd] :: own) rfl ?_
 refine G.step (OG.call [.agg #[.int .i64 (cr), v13], .int .i64 (1)] ent16 rfl rfl rfl rfl (by exact (markCartan_s hs14 (by omega) (by omega)))) rfl rfl rfl ?_
 rintro _ _ ⟨rfl, rfl⟩
 refine G.stepD (OD.assign rfl rfl) rfl rfl rfl ?_
 refine G.nil (GE.then_ (GC.seq (GC.region ?_)))
 refine G.stepD (OD.move rfl rfl) rfl rfl rfl ?_
 refine G.stepD (OD.move rfl rfl) rfl rfl rfl ?_
 refine G.at [5] 0 (env' := [(1, vword), (2, .pointer (some ⟨g1, 0, none⟩)), (6, v8), (7, .pointer (some ⟨g15, 0, none⟩)), (8, v16), (9, v18), (42, .bool false), (43, v16), (44, vword), (45, v27), (46, .bool true), (47, .bool false), (48, .agg #[.int .i64 (cr), v13]), (49, .int .i64 (1)), (50, .int .i64 (1 + (cd.length : Nat))), (10, .int .i64 (1 + (cd.length : Nat))), (51, v16), (52, .int .i64 (1 + (cd.length : Nat)))]) ⟨rfl, rfl, rfl, rfl, rfl, rfl, rfl, rfl, rfl, rfl, rfl, rfl, rfl, rfl, rfl, rfl, rfl, rfl, trivial⟩ (own' := ints 3 v16 word :: ints 3 v13 (mkd 1 cd.length) :: ints 3 v27 word :: ints 3 v26 cd :: lst 22 v18 u19 :: many (ints 3) u19 (ivL cr cd word) :: box g15 28 [.int .i64 (cr), v13] :: lst 22 v8 u9 :: many (ints 3) u9 (ivL cr cd word) :: ints 3 v6 word :: ints 3 v4 cd :: box g1 24 [.int .i64 (cr), vcd] :: own) rfl ?_
 refine G.step (OG.call [v16, .int .i64 (1 + (cd.length : Nat))] ent23 rfl rfl rfl rfl (by exact (markIntS_s hs17 (by omega) (by omega)))) rfl rfl rfl ?_
 rintro _ _ ⟨rfl, rfl⟩
 refine G.stepD (OD.assign rfl rfl) rfl rfl rfl ?_
 refine G.nil (GE.then_ (GC.seq (GC.seq (GC.region ?_))))
 refine G.stepD (OD.move rfl rfl) rfl rfl rfl ?_
 refine G.stepD (OD.eqv (OD.lss rfl rfl rfl) (congrArg Value.bool ((decide_eq_false (by omega)) : _ = false))) rfl rfl rfl ?_
 refine G.stepD (OD.move rfl rfl) rfl rfl rfl ?_
 refine G.stepGD (OD.move rfl rfl) rfl rfl rfl rfl rfl ?_
 refine G.stepGD (OD.move rfl rfl) rfl rfl rfl rfl rfl ?_
 refine G.stepG (OG.call [v18, v8] ent14 rfl rfl rfl rfl (by exact (eqIntSS_same hs20 (Ent.len (Ent.lst (i := 4) rfl) (by omega)) (fun k hk => Ent.manyInts (i := 5) (k := k) rfl ⟨by omega, hk⟩) (by omega) hs21 hs10 (Ent.len (Ent.lst (i := 7) rfl) (by omega)) (fun k hk => Ent.manyInts (i := 8) (k := k) rfl ⟨by omega, hk⟩) (by omega) hs11 (by omega) (hR2)))) rfl rfl rfl rfl rfl ?_
 rintro _ _ ⟨rfl, rfl⟩
 refine G.stepGD (OD.not rfl rfl) rfl rfl rfl rfl rfl ?_
 refine G.stepD (OD.pickF rfl rfl rfl) rfl rfl rfl ?_
 refine G.nil (GE.then_ (GC.condF rfl (GC.skip (GE.then_ (GC.seq (GC.region ?_))))))
 refine G.stepD (OD.assign rfl rfl) rfl rfl rfl ?_
 refine G.nil (GE.then_ (GC.seq (GC.region ?_)))
 refine G.stepD (OD.move rfl rfl) rfl rfl rfl ?_
 refine G.stepD (OD.move rfl rfl) rfl rfl rfl ?_
 refine G.at [4, 4, 0, 0, 0, 0, 0, 0, 0, 0, 0, 0] 0 (env' := [(1, vword), (2, .pointer (some ⟨g1, 0, none⟩)), (6, v8), (7, .pointer (some ⟨g15, 0, none⟩)), (8, v16), (9, v18), (42, .bool false), (43, v16), (44, vword), (45, v27), (46, .bool true), (47, .bool false), (48, .agg #[.int .i64 (cr), v13]), (49, .int .i64 (1)), (50, .int .i64 (1 + (cd.length : Nat))), (51, v16), (52, .int .i64 (1 + (cd.length : Nat))), (53, .int .i64 ((1 + (cd.length : Nat)) + (word.length : Nat))), (10, .int .i64 ((1 + (cd.length : Nat)) + (word.length : Nat))), (54, .int .i64 ((1 + (cd.length : Nat)) + (word.length : Nat))), (55, .bool false), (56, .bool false), (57, v18), (58, v8), (59, .bool true), (60, .bool false), (61, .bool false), (11, .int .i64 (1)), (62, v18), (63, .int .i64 (1))]) ⟨rfl, rfl, rfl, rfl, rfl, rfl, rfl, rfl, rfl, rfl, rfl, rfl, rfl, rfl, rfl, rfl, rfl, rfl, rfl, rfl, rfl, rfl, rfl, rfl, rfl, rfl, rfl, rfl, rfl, rfl, trivial⟩ (own' := lst 22 v18 u19 :: many (ints 3) u19 (ivL cr cd word) :: ints 3 v16 (mkd (1 + (cd.length : Nat)) word.length) :: ints 3 v13 (mkd 1 cd.length) :: ints 3 v27 word :: ints 3 v26 cd :: box g15 28 [.int .i64 (cr), v13] :: lst 22 v8 u9 :: many (ints 3) u9 (ivL cr cd word) :: ints 3 v6 word :: ints 3 v4 cd :: box g1 24 [.int .i64 (cr), vcd] :: own) rfl ?_
 refine G.step (OG.call [v18, .int .i64 (1)] ent17 rfl rfl rfl rfl (by exact (markIntSS_s hs20 hs21 (by omega) (by omega) (by omega) (hR2)))) rfl rfl rfl ?_
 rintro _ _ ⟨rfl, rfl⟩
 refine G.stepD (OD.assign rfl rfl) rfl rfl rfl ?_
 refine G.nil (GE.then_ (GC.seq (GC.region ?_)))
 refine G.stepD (OD.assign rfl rfl) rfl rfl rfl ?_
 refine G.nil (GE.then_ (GC.seq (GC.region ?_)))
 refine G.stepD (OD.move rfl rfl) rfl rfl rfl ?_
 refine G.stepD (OD.move rfl rfl) rfl rfl rfl ?_
 refine G.step (OG.call [v18, .int .i64 (1)] ent18 rfl rfl rfl rfl (by exact (heldIntSS_m hs20 (Ent.len (Ent.lst (i := 0) rfl) (by omega)) (fun k hk => by have h := Ent.manyInts (own := lst 22 v18 u19 :: many (ints 3) u19 (mkds 1 (ivL cr cd word)) :: ints 3 v16 (mkd (1 + (cd.length : Nat)) word.length) :: ints 3 v13 (mkd 1 cd.length) :: ints 3 v27 word :: ints 3 v26 cd :: box g15 28 [.int .i64 (cr), v13] :: lst 22 v8 u9 :: many (ints 3) u9 (ivL cr cd word) :: ints 3 v6 word :: ints 3 v4 cd :: box g1 24 [.int .i64 (cr), vcd] :: own) (i := 1) (k := k) rfl ⟨by omega, by rw [mkds_len]; exact hk⟩; rwa [mkds_get _ hk] at h) (by omega) hs21 (by omega) (by omega) (hR2)))) rfl rfl rfl ?_
 rintro _ _ ⟨rfl, rfl⟩
 refine G.stepD (OD.assign rfl rfl) rfl rfl rfl ?_
 refine G.nil (GE.then_ (GC.seq (GC.seq (GC.region ?_))))
 refine G.stepD (OD.move rfl rfl) rfl rfl rfl ?_
 refine G.stepD (OD.eqv (OD.lss rfl rfl rfl) (congrArg Value.bool ((decide_eq_false (by omega)) : _ = false))) rfl rfl rfl ?_
 refine G.nil (GE.then_ (GC.condF rfl (GC.skip (GE.then_ (GC.seq (GC.seq (GC.region ?_)))))))
 refine G.stepD (OD.move rfl rfl) rfl rfl rfl ?_
 refine G.stepD (OD.move rfl rfl) rfl rfl rfl ?_
 refine G.stepD (OD.eqv (OD.neq rfl rfl rfl) (congrArg Value.bool ((bne_same _) : _ = false))) rfl rfl rfl ?_
 refine G.nil (GE.then_ (GC.condF rfl (GC.skip (GE.then_ (GC.seq (GC.region ?_))))))
 refine G.stepD (OD.loadAgg rfl ti24 rfl (i := 11) rfl (us := [.int .i64 (cr), vcd]) rfl rfl) rfl rfl rfl ?_
 refine G.step (OG.call [.agg #[.int .i64 (cr), vcd]] ent12 rfl rfl rfl rfl (by exact (toCartan_s scd (Ent.drop 12 ecd) (by omega)))) rfl rfl rfl ?_
 rintro _ _ ⟨v29, rfl, hs30, rfl⟩
 refine G.stepD (OD.move rfl rfl) rfl rfl rfl ?_
 refine G.step (OG.call [vword] ent20 rfl rfl rfl rfl (by exact (toIntS_s sword (Ent.drop 13 eword) (by omega)))) rfl rfl rfl ?_
 rintro v31 _ ⟨_, rfl, hs32, rfl⟩
 refine G.step (OG.call [.agg #[.int .i64 (cr), v29], v31] ent21 rfl rfl rfl rfl (by exact (inversionsOf_w hs30 (Ent.ints (i := 1) rfl) hs32 (Ent.ints (i := 0) rfl) (by omega) (by omega) ((Ent.drop 14 hg)) ((Ent.drop 14 htab))))) rfl rfl rfl ?_
 rintro v33 _ ⟨_, u34, rfl, hs35, hs36, hs37, rfl⟩
 refine G.stepD (OD.assign rfl rfl) rfl rfl rfl ?_
 refine G.nil (GE.then_ (GC.seq (GC.seq (GC.region ?_))))
 refine G.stepD (OD.move rfl rfl) rfl rfl rfl ?_
 refine G.stepD (OD.move rfl rfl) rfl rfl rfl ?_
 refine G.step (OG.call [v33, v8] ent14 rfl rfl rfl rfl (by exact (eqIntSS_same hs35 (Ent.len (Ent.lst (i := 0) rfl) (by omega)) (fun k hk => Ent.manyInts (i := 1) (k := k) rfl ⟨by omega, hk⟩) (by omega) hs36 hs10 (Ent.len (Ent.lst (i := 11) rfl) (by omega)) (fun k hk => Ent.manyInts (i := 12) (k := k) rfl ⟨by omega, hk⟩) (by omega) hs11 (by omega) (hR2)))) rfl rfl rfl ?_
 rintro _ _ ⟨rfl, rfl⟩
 refine G.stepD (OD.not rfl rfl) rfl rfl rfl ?_
 refine G.nil (GE.then_ (GC.condF rfl (GC.skip (GE.then_ (GC.seq (GC.region ?_))))))
 refine G.stepD (OD.assign rfl rfl) rfl rfl rfl ?_
 refine G.nil (GE.then_ (GC.seq (GC.region ?_)))
 refine G.stepD (OD.move rfl rfl) rfl rfl rfl ?_
 refine G.stepD (OD.move rfl rfl) rfl rfl rfl ?_
 refine G.step (OG.call [v18, .int .i64 (1)] ent18 rfl rfl rfl rfl (by exact (heldIntSS_m hs20 (Ent.len (Ent.lst (i := 4) rfl) (by omega)) (fun k hk => by have h := Ent.manyInts (own := lst 22 v33 u34 :: many (ints 3) u34 (ivL cr cd word) :: ints 3 v31 word :: ints 3 v29 cd :: lst 22 v18 u19 :: many (ints 3) u19 (mkds 1 (ivL cr cd word)) :: ints 3 v16 (mkd (1 + (cd.length : Nat)) word.length) :: ints 3 v13 (mkd 1 cd.length) :: ints 3 v27 word :: ints 3 v26 cd :: box g15 28 [.int .i64 (cr), v13] :: lst 22 v8 u9 :: many (ints 3) u9 (ivL cr cd word) :: ints 3 v6 word :: ints 3 v4 cd :: box g1 24 [.int .i64 (cr), vcd] :: own) (i := 5) (k := k) rfl ⟨by omega, by rw [mkds_len]; exact hk⟩; rwa [mkds_get _ hk] at h) (by omega) hs21 (by omega) (by omega) (hR2)))) rfl rfl rfl ?_
 rintro _ _ ⟨rfl, rfl⟩
 refine G.stepD (OD.assign rfl rfl) rfl rfl rfl ?_
 refine G.nil (GE.then_ (GC.seq (GC.seq (GC.region ?_))))
 refine G.stepD (OD.move rfl rfl) rfl rfl rfl ?_
 refine G.stepD (OD.eqv (OD.lss rfl rfl rfl) (congrArg Value.bool ((decide_eq_false (by omega)) : _ = false))) rfl rfl rfl ?_
 refine G.nil (GE.then_ (GC.condF rfl (GC.skip (GE.then_ (GC.seq (GC.seq (GC.region ?_)))))))
 refine G.stepD (OD.move rfl rfl) rfl rfl rfl ?_
 refine G.stepD (OD.move rfl rfl) rfl rfl rfl ?_
 refine G.stepD (OD.eqv (OD.neq rfl rfl rfl) (congrArg Value.bool ((bne_same _) : _ = false))) rfl rfl rfl ?_
 refine G.nil (GE.then_ (GC.condF rfl (GC.skip (GE.then_ (GC.seq (GC.region ?_))))))
 refine G.stepD (OD.assign rfl rfl) rfl rfl rfl ?_
 refine G.nil (GE.then_ (GC.ret ?_))
 exact GE.body [] 16 (res1 rfl rfl) rfl (⟨rfl, rfl⟩)

end Go.Proofs.YtmckgdekblphoaaGreatDoor
