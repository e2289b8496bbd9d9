/-
  The positive roots: contracts by walks.
-/
import Derived.Test.YtmckgdekblphoaaGreatDoorWNst
import Derived.Test.YtmckgdekblphoaaGreatDoorInv
namespace Go.Proofs.YtmckgdekblphoaaGreatDoor
set_option linter.unusedVariables false
set_option linter.unusedSimpArgs false
open Go.RowKit

theorem fd48_1 : FD Tryz.prog 48 1 2 := by have h := fd_of (f := 1) Tryz.underlying48 rfl (fun w => by kernel_rfl); exact h
theorem ent10 : ∀ us w, (callFunc 10 us).run Tryz.prog w = .ok (.enter 10 us) w := fun us w => by kernel_rfl
theorem ent11 : ∀ us w, (callFunc 11 us).run Tryz.prog w = .ok (.enter 11 us) w := fun us w => by kernel_rfl
theorem ent12 : ∀ us w, (callFunc 12 us).run Tryz.prog w = .ok (.enter 12 us) w := fun us w => by kernel_rfl
theorem ent13 : ∀ us w, (callFunc 13 us).run Tryz.prog w = .ok (.enter 13 us) w := fun us w => by kernel_rfl
theorem ent14 : ∀ us w, (callFunc 14 us).run Tryz.prog w = .ok (.enter 14 us) w := fun us w => by kernel_rfl
theorem ent15 : ∀ us w, (callFunc 15 us).run Tryz.prog w = .ok (.enter 15 us) w := fun us w => by kernel_rfl
theorem ent16 : ∀ us w, (callFunc 16 us).run Tryz.prog w = .ok (.enter 16 us) w := fun us w => by kernel_rfl
theorem ent17 : ∀ us w, (callFunc 17 us).run Tryz.prog w = .ok (.enter 17 us) w := fun us w => by kernel_rfl
theorem ent18 : ∀ us w, (callFunc 18 us).run Tryz.prog w = .ok (.enter 18 us) w := fun us w => by kernel_rfl
theorem ent37 : ∀ us w, (callFunc 37 us).run Tryz.prog w = .ok (.enter 37 us) w := fun us w => by kernel_rfl
theorem ent39 : ∀ us w, (callFunc 39 us).run Tryz.prog w = .ok (.enter 39 us) w := fun us w => by kernel_rfl
theorem ent40 : ∀ us w, (callFunc 40 us).run Tryz.prog w = .ok (.enter 40 us) w := fun us w => by kernel_rfl

set_option maxRecDepth 100000 in
theorem specPositiveRoots_w {W : World} {own : List Asn} {cr : Int} {vcd : Value} {cd : List Int}  (scd : IsS vcd) (ecd : Ent own fun w => Ints w vcd cd)  (hl0 : cd.length ≤ 1073741824) : Spec Tryz.prog 11 [.agg #[.int .i64 (cr), vcd]] W own (fun v ow => ∃ (r0 : Value) (u0 : List Value), v = r0 ∧ IsS r0 ∧ AllS u0 ∧ u0.length = (prOfL cr cd).length ∧ ow = lst 22 r0 u0 :: many (ints 3) u0 (prOfL cr cd) :: own) := by
 refine Spec.enter Tryz.f11 _ Tryz.func11 rfl (n := 8) rfl rfl ?_
 refine GC.seq (GC.region ?_)
 refine G.step (OG.box (cs := [.int .i64 (cr), vcd]) rfl rfl rfl) rfl rfl rfl ?_
 rintro _ _ ⟨g1, rfl, rfl⟩
 refine G.stepD (OD.assign rfl rfl) rfl rfl rfl ?_
 refine G.nil (GE.then_ (GC.seq (GC.seq (GC.region ?_))))
 refine G.stepD (OD.loadAgg rfl ti28 rfl (i := 0) rfl (us := [.int .i64 (cr), vcd]) rfl rfl) rfl rfl rfl ?_
 refine G.step (OG.call [.agg #[.int .i64 (cr), vcd]] ent36 rfl rfl rfl rfl (by exact (specIsCartan_w scd (Ent.drop 1 ecd) (hl0)))) rfl rfl rfl ?_
 rintro _ _ ⟨rfl, rfl⟩
 refine G.stepD (OD.not rfl rfl) rfl rfl rfl ?_
 refine G.nil (GE.then_ ?_)
 refine GC.cond rfl (fun hc2 => ?_) (fun hc2 => ?_)
 replace hc2 := eq_false_of_not hc2
 have hS := hc2
 refine GC.seq (GC.region ?_)
 refine G.stepD (OD.assign rfl rfl) rfl rfl rfl ?_
 refine G.nil (GE.then_ (GC.ret (GE.passR ?_)))
 refine GE.many0 (ints 3) ?_
 refine GE.nilLst 22 ?_
 exact GE.body [0, 0] 1 (res1 rfl rfl) rfl (⟨(.slice none 0 0), [], rfl, IsS.nil, AllS.nil, (by rw [prOfL, hS] <;> rfl), congrArg (fun (l0 : List (List Int)) => lst 22 (.slice none 0 0) [] :: many (ints 3) [] l0 :: own) ((by rw [prOfL, hS] <;> rfl : [] = prOfL cr cd))⟩)
 replace hc2 := eq_true_of_not hc2
 have hS := hc2
 refine GC.skip (GE.then_ (GC.seq (GC.region ?_)))
 refine G.stepD (OD.loadAgg rfl ti28 rfl (i := 0) rfl (us := [.int .i64 (cr), vcd]) rfl rfl) rfl rfl rfl ?_
 refine G.step (OG.call [.agg #[.int .i64 (cr), vcd]] ent37 rfl rfl rfl rfl (by exact (l5Roots_w scd (Ent.drop 1 ecd) ((tyS_ok hS).1) ((tyS_ok hS).2) (hS)))) rfl rfl rfl ?_
 rintro v3 _ ⟨_, u4, rfl, hs5, hs6, hs7, rfl⟩
 refine G.stepD (OD.assign rfl rfl) rfl rfl rfl ?_
 refine G.nil (GE.then_ (GC.ret ?_))
 exact GE.body [0, 0] 1 (res1 rfl rfl) rfl (⟨v3, u4, rfl, hs5, hs6, (by rw [prOfL, if_pos hS]; omega), congrArg (fun (l0 : List (List Int)) => lst 22 v3 u4 :: many (ints 3) u4 l0 :: own) ((by rw [prOfL, if_pos hS] : rSt cr cd = prOfL cr cd))⟩)

set_option maxRecDepth 100000 in
theorem positiveRoots_w {W : World} {own : List Asn} {cr : Int} {vcd : Value} {cd : List Int}  (scd : IsS vcd) (ecd : Ent own fun w => Ints w vcd cd)  (hl0 : cd.length ≤ 1073741824) (hg : Ent own fun w => ∃ m, w.cell? ⟨Tryz.l146_ren.g 1, 0, none⟩ = some (.int .i64 m)) (htab : Ent own Pow10) : Spec Tryz.prog 13 [.agg #[.int .i64 (cr), vcd]] W own (fun v ow => ∃ (r0 : Value) (u0 : List Value), v = r0 ∧ IsS r0 ∧ AllS u0 ∧ u0.length = (prOfL cr cd).length ∧ ow = lst 22 r0 u0 :: many (ints 3) u0 (prOfL cr cd) :: own) := by
 refine Spec.enter Tryz.f13 _ Tryz.func13 rfl (n := 10) rfl rfl ?_
 refine GC.seq (GC.region ?_)
 refine G.step (OG.box (cs := [.int .i64 (cr), vcd]) rfl rfl rfl) rfl rfl rfl ?_
 rintro _ _ ⟨g1, rfl, rfl⟩
 refine G.stepD (OD.assign rfl rfl) rfl rfl rfl ?_
 refine G.nil (GE.then_ (GC.seq (GC.seq (GC.region ?_))))
 refine G.stepD (OD.loadAgg rfl ti28 rfl (i := 0) rfl (us := [.int .i64 (cr), vcd]) rfl rfl) rfl rfl rfl ?_
 refine G.step (OG.call [.agg #[.int .i64 (cr), vcd]] ent38 rfl rfl rfl rfl (by exact (isCartan_w scd (Ent.drop 1 ecd) (hl0) ((Ent.drop 1 hg))))) rfl rfl rfl ?_
 rintro _ _ ⟨rfl, rfl⟩
 refine G.stepD (OD.not rfl rfl) rfl rfl rfl ?_
 refine G.nil (GE.then_ ?_)
 refine GC.cond rfl (fun hc2 => ?_) (fun hc2 => ?_)
 replace hc2 := eq_false_of_not hc2
 have hS := hc2
 refine GC.seq (GC.region ?_)
 refine G.stepD (OD.assign rfl rfl) rfl rfl rfl ?_
 refine G.nil (GE.then_ (GC.ret (GE.passR ?_)))
 refine GE.many0 (ints 3) ?_
 refine GE.nilLst 22 ?_
 exact GE.body [0, 0] 1 (res1 rfl rfl) rfl (⟨(.slice none 0 0), [], rfl, IsS.nil, AllS.nil, (by rw [prOfL, hS] <;> rfl), congrArg (fun (l0 : List (List Int)) => lst 22 (.slice none 0 0) [] :: many (ints 3) [] l0 :: own) ((by rw [prOfL, hS] <;> rfl : [] = prOfL cr cd))⟩)
 replace hc2 := eq_true_of_not hc2
 have hS := hc2
 refine GC.skip (GE.then_ (GC.seq (GC.region ?_)))
 refine G.stepD (OD.loadAgg rfl ti28 rfl (i := 0) rfl (us := [.int .i64 (cr), vcd]) rfl rfl) rfl rfl rfl ?_
 refine G.step (OG.call [.agg #[.int .i64 (cr), vcd]] ent40 rfl rfl rfl rfl (by exact (newRoots_w scd (Ent.drop 1 ecd) ((tyS_ok hS).1) ((tyS_ok hS).2) (hS) ((Ent.drop 1 htab))))) rfl rfl rfl ?_
 rintro _ _ ⟨v3, u4, g8, rfl, hs5, hs6, hs7, rfl⟩
 refine G.stepD (OD.field (us := [.int .i64 (cr), vcd, v3, .map (some g8)]) rfl fd48_1 rfl rfl) rfl rfl rfl ?_
 refine G.step (OG.call [v3] ent39 rfl rfl rfl rfl (by exact (copyLists_w hs5 (Ent.len (Ent.lst (i := 0) rfl) (by omega)) (fun k hk => Ent.manyInts (i := 1) (k := k) rfl ⟨by omega, hk⟩) (by omega) hs6 (by have h1 := (rtOk hS).slen; have h2 := (rtOk hS).few; omega) (fun k hk => by have h1 := ((rtOk hS).sget hk).1; have h2 := (rtOk hS).rk; omega)))) rfl rfl rfl ?_
 rintro v9 _ ⟨_, u10, rfl, hs11, hs12, hs13, rfl⟩
 refine G.stepD (OD.assign rfl rfl) rfl rfl rfl ?_
 refine G.nil (GE.then_ (GC.ret ?_))
 exact GE.body [0, 0] 4 (res1 rfl rfl) rfl (⟨v9, u10, rfl, hs11, hs12, (by rw [prOfL, if_pos hS]; omega), congrArg (fun (l0 : List (List Int)) => lst 22 v9 u10 :: many (ints 3) u10 l0 :: own) ((by rw [prOfL, if_pos hS] : rSt cr cd = prOfL cr cd))⟩)

set_option maxHeartbeats 4000000 in
set_option maxRecDepth 100000 in
theorem lawPositiveRoots {W : World} {own : List Asn} {cr : Int} {vcd : Value} {cd : List Int}  (scd : IsS vcd) (ecd : Ent own fun w => Ints w vcd cd)  (hcd : cd.length ≤ 9223372036854775807) (hg : Ent own fun w => ∃ m, w.cell? ⟨Tryz.l146_ren.g 1, 0, none⟩ = some (.int .i64 m)) (htab : Ent own Pow10) : Spec Tryz.prog 3 [.agg #[.int .i64 (cr), vcd]] W own (fun v ow => v = .bool (true) ∧ ow = own) := by
 have hR1 := prOfL_len cr cd
 have hR2 : ∀ k, k < (prOfL cr cd).length → ((prOfL cr cd).getD k []).length ≤ 1000 := fun k hk => Nat.le_trans (getD_ent (fun x hx => prOfL_ent hx) k hk) (by decide)
 refine Spec.enter Tryz.f3 _ Tryz.func3 rfl (n := 69) rfl rfl ?_
 refine GC.seq (GC.region ?_)
 refine G.step (OG.box (cs := [.int .i64 (cr), vcd]) rfl rfl rfl) rfl rfl rfl ?_
 rintro _ _ ⟨g1, rfl, rfl⟩
 refine G.stepD (OD.assign rfl rfl) rfl rfl rfl ?_
 refine G.nil (GE.then_ (GC.seq (GC.region ?_)))
 refine G.stepD (OD.assign rfl rfl) rfl rfl rfl ?_
 refine G.nil (GE.then_ (GC.seq (GC.region ?_)))
 refine G.stepD (OD.loadAgg rfl ti24 rfl (i := 0) rfl (us := [.int .i64 (cr), vcd]) rfl rfl) rfl rfl rfl ?_
 refine G.stepD (OD.move rfl rfl) rfl rfl rfl ?_
 refine G.step (OG.call [.agg #[.int .i64 (cr), vcd], .int .i64 (1048576)] ent10 rfl rfl rfl rfl (by exact (szCartan_s scd (Ent.drop 1 ecd) (by omega) (by omega)))) rfl rfl rfl ?_
 rintro _ _ ⟨rfl, rfl⟩
 refine G.stepD (OD.assign rfl rfl) rfl rfl rfl ?_
 refine G.nil (GE.then_ (GC.seq (GC.seq (GC.region ?_))))
 refine G.stepD (OD.move rfl rfl) rfl rfl rfl ?_
 refine G.stepD (OD.lss rfl rfl rfl) rfl rfl rfl ?_
 refine G.nil (GE.then_ ?_)
 refine GC.cond rfl (fun hc2 => ?_) (fun hc2 => ?_)
 replace hc2 := of_decide_eq_true hc2
 refine GC.seq (GC.region ?_)
 refine G.stepD (OD.assign rfl rfl) rfl rfl rfl ?_
 refine G.nil (GE.then_ (GC.ret (GE.passR ?_)))
 exact GE.body [] 1 (res1 rfl rfl) rfl (⟨rfl, rfl⟩)
 replace hc2 := of_decide_eq_false hc2
 have hc2z := szG_ok hc2
 refine GC.skip (GE.then_ (GC.seq (GC.region ?_)))
 refine G.stepD (OD.loadAgg rfl ti24 rfl (i := 0) rfl (us := [.int .i64 (cr), vcd]) rfl rfl) rfl rfl rfl ?_
 refine G.step (OG.call [.agg #[.int .i64 (cr), vcd]] ent12 rfl rfl rfl rfl (by exact (toCartan_s scd (Ent.drop 1 ecd) (by omega)))) rfl rfl rfl ?_
 rintro _ _ ⟨v3, rfl, hs4, rfl⟩
 refine G.step (OG.call [.agg #[.int .i64 (cr), v3]] ent11 rfl rfl rfl rfl (by exact (specPositiveRoots_w hs4 (Ent.ints (i := 0) rfl) (by omega)))) rfl rfl rfl ?_
 rintro v5 _ ⟨_, u6, rfl, hs7, hs8, hs9, rfl⟩
 refine G.stepD (OD.assign rfl rfl) rfl rfl rfl ?_
 refine G.nil (GE.then_ (GC.seq (GC.region ?_)))
 refine G.stepD (OD.loadAgg rfl ti24 rfl (i := 3) rfl (us := [.int .i64 (cr), vcd]) rfl rfl) rfl rfl rfl ?_
 refine G.step (OG.call [.agg #[.int .i64 (cr), vcd]] ent12 rfl rfl rfl rfl (by exact (toCartan_s scd (Ent.drop 4 ecd) (by omega)))) rfl rfl rfl ?_
 rintro _ _ ⟨v10, rfl, hs11, rfl⟩
 refine G.step (OG.alloc rfl ti28 (zs := [.int .i64 (0), .slice none 0 0]) rfl) rfl rfl rfl ?_
 rintro _ _ ⟨g12, rfl, rfl⟩
 refine G.stepD0 (OD.store rfl ti28 rfl rfl (us := [.int .i64 (cr), v10]) rfl rfl (allC rfl (allC (IsS.one hs11) rfl)) (i := 0) rfl rfl) rfl rfl ?_
 refine G.nil (GE.then_ (GC.seq (GC.region ?_)))
 refine G.stepD (OD.loadAgg rfl ti28 rfl (i := 0) rfl (us := [.int .i64 (cr), v10]) rfl rfl) rfl rfl rfl ?_
 refine G.step (OG.call [.agg #[.int .i64 (cr), v10]] ent13 rfl rfl rfl rfl (by exact (positiveRoots_w hs11 (Ent.ints (i := 1) rfl) (by omega) ((Ent.drop 6 hg)) ((Ent.drop 6 htab))))) rfl rfl rfl ?_
 rintro v13 _ ⟨_, u14, rfl, hs15, hs16, hs17, rfl⟩
 refine G.stepD (OD.assign rfl rfl) rfl rfl rfl ?_
 refine G.nil (GE.then_ (GC.seq (GC.seq (GC.region ?_))))
 refine G.stepD (OD.move rfl rfl) rfl rfl rfl ?_
 refine G.stepD (OD.move rfl rfl) rfl rfl rfl ?_
 refine G.step (OG.call [v13, v5] ent14 rfl rfl rfl rfl (by exact (eqIntSS_same hs15 (Ent.len (Ent.lst (i := 0) rfl) (by omega)) (fun k hk => Ent.manyInts (i := 1) (k := k) rfl ⟨by omega, hk⟩) (by omega) hs16 hs7 (Ent.len (Ent.lst (i := 4) rfl) (by omega)) (fun k hk => Ent.manyInts (i := 5) (k := k) rfl ⟨by omega, hk⟩) (by omega) hs8 (by omega) (hR2)))) rfl rfl rfl ?_
 rintro _ _ ⟨rfl, rfl⟩
 refine G.stepD (OD.not rfl rfl) rfl rfl rfl ?_
 refine G.nil (GE.then_ (GC.condF rfl (GC.skip (GE.then_ (GC.seq (GC.seq ?_))))))
 refine GC.at [] 0 (env' := [(1, .pointer (some ⟨g1, 0, none⟩)), (4, v5), (5, .pointer (some ⟨g12, 0, none⟩)), (6, v13)]) ⟨rfl, rfl, rfl, rfl, trivial⟩ rfl ?_
 refine GC.par (its := [⟨27, [], [], [], [], fun _ => .agg #[.int .i64 (cr), v10], fun _ => True, fun _ => []⟩,
     ⟨28, [], [], [], [], fun _ => .agg #[.int .i64 (cr), vcd], fun _ => True, fun _ => []⟩,
     ⟨29, [(1, 28)], [], [], [2], fun ds => .agg #[.int .i64 (cr), ((ds.getD 0 []).getD 0 undef)], fun ds => IsS ((ds.getD 0 []).getD 0 undef), fun ds => [ints 3 ((ds.getD 0 []).getD 0 undef) cd]⟩,
     ⟨30, [(0, 27), (2, 29)], [2], [], [2], fun _ => .bool true, fun _ => True, fun _ => []⟩,
     ⟨31, [(3, 30)], [2], [], [2], fun _ => .bool false, fun _ => True, fun _ => []⟩]) (by kernel_rfl) (by kernel_rfl) (POps.cons ?_ (POps.cons ?_ (POps.cons ?_ (POps.cons ?_ (POps.cons ?_ POps.nil))))) ?_
 intro θ R hd
 exact Opp.plain (OG.imp (OD.loadAgg rfl ti28 rfl (i := 2) rfl (us := [.int .i64 (cr), v10]) rfl rfl) (by rintro _ _ ⟨rfl, rfl⟩; exact ⟨[], rfl, trivial, rfl⟩)) rfl
 intro θ R hd
 exact Opp.plain (OG.imp (OD.loadAgg rfl ti24 rfl (i := 7) rfl (us := [.int .i64 (cr), vcd]) rfl rfl) (by rintro _ _ ⟨rfl, rfl⟩; exact ⟨[], rfl, trivial, rfl⟩)) rfl
 intro θ R hd
 obtain ⟨h1d, _⟩ := hd
 exact Opp.plain (OG.imp (OG.call [.agg #[.int .i64 (cr), vcd]] ent12 rfl rfl rfl rfl (by exact (toCartan_s scd (Ent.drop 8 ecd.app) (by omega)))) (by rintro _ _ ⟨v18, rfl, hs19, rfl⟩; exact ⟨[v18], rfl, hs19, rfl⟩)) rfl
 intro θ R hd
 obtain ⟨h0d, h2d, _⟩ := hd
 exact Opp.plain (OG.imp (OG.call [.agg #[.int .i64 (cr), v10], .agg #[.int .i64 (cr), ((θ 2).getD 0 undef)]] ent15 rfl rfl rfl rfl (by exact (eqCartan_same hs11 (Ent.ints (i := 4) rfl) h2d (Ent.ints (i := 0) rfl) (by omega)))) (by rintro _ _ ⟨rfl, rfl⟩; exact ⟨[], rfl, trivial, rfl⟩)) rfl
 intro θ R hd
 obtain ⟨h3d, _⟩ := hd
 exact Opp.plain (OG.imp (OD.not rfl rfl) (by rintro _ _ ⟨rfl, rfl⟩; exact ⟨[], rfl, trivial, rfl⟩)) rfl
 intro θ hall
 obtain ⟨_, _, h2a, _, _, _⟩ := hall
 refine G.at [] 0 (env' := [(1, .pointer (some ⟨g1, 0, none⟩)), (4, v5), (5, .pointer (some ⟨g12, 0, none⟩)), (6, v13), (31, .bool false)]) ⟨rfl, rfl, rfl, rfl, rfl, trivial⟩ (own' := ints 3 ((θ 2).getD 0 undef) cd :: lst 22 v13 u14 :: many (ints 3) u14 (prOfL cr cd) :: box g12 28 [.int .i64 (cr), v10] :: ints 3 v10 cd :: lst 22 v5 u6 :: many (ints 3) u6 (prOfL cr cd) :: ints 3 v3 cd :: box g1 24 [.int .i64 (cr), vcd] :: own) rfl ?_
 have hs20 : IsS ((θ 2).getD 0 undef) := h2a
 clear h2a
 generalize ((θ 2).getD 0 undef) = v21 at *
 show G _ _ _ [] _ _ _ _
 refine G.nil (GE.then_ (GC.condF rfl (GC.skip (GE.then_ (GC.seq (GC.region ?_))))))
 refine G.stepD (OD.assign rfl rfl) rfl rfl rfl ?_
 refine G.nil (GE.then_ (GC.seq (GC.region ?_)))
 refine G.stepD (OD.loadAgg rfl ti28 rfl (i := 3) rfl (us := [.int .i64 (cr), v10]) rfl rfl) rfl rfl rfl ?_
 refine G.stepD (OD.move rfl rfl) rfl rfl rfl ?_
 refine G.at [4] 0 (env' := [(1, .pointer (some ⟨g1, 0, none⟩)), (4, v5), (5, .pointer (some ⟨g12, 0, none⟩)), (6, v13), (31, .bool false), (7, .int .i64 (1)), (32, .agg #[.int .i64 (cr), v10]), (33, .int .i64 (1))]) ⟨rfl, rfl, rfl, rfl, rfl, rfl, rfl, rfl, trivial⟩ (own' := ints 3 v10 cd :: ints 3 v21 cd :: lst 22 v13 u14 :: many (ints 3) u14 (prOfL cr cd) :: box g12 28 [.int .i64 (cr), v10] :: lst 22 v5 u6 :: many (ints 3) u6 (prOfL cr cd) :: ints 3 v3 cd :: box g1 24 [.int .i64 (cr), vcd] :: own) rfl ?_
 refine G.step (OG.call [.agg #[.int .i64 (cr), v10], .int .i64 (1)] ent16 rfl rfl rfl rfl (by exact (markCartan_s hs11 (by omega) (by omega)))) rfl rfl rfl ?_
 rintro _ _ ⟨rfl, rfl⟩
 refine G.stepD (OD.assign rfl rfl) rfl rfl rfl ?_
 refine G.nil (GE.then_ (GC.seq (GC.seq (GC.region ?_))))
 refine G.stepD (OD.move rfl rfl) rfl rfl rfl ?_
 refine G.stepD (OD.eqv (OD.lss rfl rfl rfl) (congrArg Value.bool ((decide_eq_false (by omega)) : _ = false))) rfl rfl rfl ?_
 refine G.stepD (OD.move rfl rfl) rfl rfl rfl ?_
 refine G.stepGD (OD.move rfl rfl) rfl rfl rfl rfl rfl ?_
 refine G.stepGD (OD.move rfl rfl) rfl rfl rfl rfl rfl ?_
 refine G.stepG (OG.call [v13, v5] ent14 rfl rfl rfl rfl (by exact (eqIntSS_same hs15 (Ent.len (Ent.lst (i := 2) rfl) (by omega)) (fun k hk => Ent.manyInts (i := 3) (k := k) rfl ⟨by omega, hk⟩) (by omega) hs16 hs7 (Ent.len (Ent.lst (i := 5) rfl) (by omega)) (fun k hk => Ent.manyInts (i := 6) (k := k) rfl ⟨by omega, hk⟩) (by omega) hs8 (by omega) (hR2)))) rfl rfl rfl rfl rfl ?_
 rintro _ _ ⟨rfl, rfl⟩
 refine G.stepGD (OD.not rfl rfl) rfl rfl rfl rfl rfl ?_
 refine G.stepD (OD.pickF rfl rfl rfl) rfl rfl rfl ?_
 refine G.nil (GE.then_ (GC.condF rfl (GC.skip (GE.then_ (GC.seq (GC.region ?_))))))
 refine G.stepD (OD.assign rfl rfl) rfl rfl rfl ?_
 refine G.nil (GE.then_ (GC.seq (GC.region ?_)))
 refine G.stepD (OD.move rfl rfl) rfl rfl rfl ?_
 refine G.stepD (OD.move rfl rfl) rfl rfl rfl ?_
 refine G.at [2, 2, 0, 0, 0, 0, 0, 0, 0] 0 (env' := [(1, .pointer (some ⟨g1, 0, none⟩)), (4, v5), (5, .pointer (some ⟨g12, 0, none⟩)), (6, v13), (31, .bool false), (32, .agg #[.int .i64 (cr), v10]), (33, .int .i64 (1)), (34, .int .i64 (1 + (cd.length : Nat))), (7, .int .i64 (1 + (cd.length : Nat))), (35, .int .i64 (1 + (cd.length : Nat))), (36, .bool false), (37, .bool false), (38, v13), (39, v5), (40, .bool true), (41, .bool false), (42, .bool false), (8, .int .i64 (1)), (43, v13), (44, .int .i64 (1))]) ⟨rfl, rfl, rfl, rfl, rfl, rfl, rfl, rfl, rfl, rfl, rfl, rfl, rfl, rfl, rfl, rfl, rfl, rfl, rfl, rfl, trivial⟩ (own' := lst 22 v13 u14 :: many (ints 3) u14 (prOfL cr cd) :: ints 3 v10 (mkd 1 cd.length) :: ints 3 v21 cd :: box g12 28 [.int .i64 (cr), v10] :: lst 22 v5 u6 :: many (ints 3) u6 (prOfL cr cd) :: ints 3 v3 cd :: box g1 24 [.int .i64 (cr), vcd] :: own) rfl ?_
 refine G.step (OG.call [v13, .int .i64 (1)] ent17 rfl rfl rfl rfl (by exact (markIntSS_s hs15 hs16 (by omega) (by omega) (by omega) (hR2)))) rfl rfl rfl ?_
 rintro _ _ ⟨rfl, rfl⟩
 refine G.stepD (OD.assign rfl rfl) rfl rfl rfl ?_
 refine G.nil (GE.then_ (GC.seq (GC.region ?_)))
 refine G.stepD (OD.assign rfl rfl) rfl rfl rfl ?_
 refine G.nil (GE.then_ (GC.seq (GC.region ?_)))
 refine G.stepD (OD.move rfl rfl) rfl rfl rfl ?_
 refine G.stepD (OD.move rfl rfl) rfl rfl rfl ?_
 refine G.step (OG.call [v13, .int .i64 (1)] ent18 rfl rfl rfl rfl (by exact (heldIntSS_m hs15 (Ent.len (Ent.lst (i := 0) rfl) (by omega)) (fun k hk => by have h := Ent.manyInts (own := lst 22 v13 u14 :: many (ints 3) u14 (mkds 1 (prOfL cr cd)) :: ints 3 v10 (mkd 1 cd.length) :: ints 3 v21 cd :: box g12 28 [.int .i64 (cr), v10] :: lst 22 v5 u6 :: many (ints 3) u6 (prOfL cr cd) :: ints 3 v3 cd :: box g1 24 [.int .i64 (cr), vcd] :: own) (i := 1) (k := k) rfl ⟨by omega, by rw [mkds_len]; exact hk⟩; rwa [mkds_get _ hk] at h) (by omega) hs16 (by omega) (by omega) (hR2)))) rfl rfl rfl ?_
 rintro _ _ ⟨rfl, rfl⟩
 refine G.stepD (OD.assign rfl rfl) rfl rfl rfl ?_
 refine G.nil (GE.then_ (GC.seq (GC.seq (GC.region ?_))))
 refine G.stepD (OD.move rfl rfl) rfl rfl rfl ?_
 refine G.stepD (OD.eqv (OD.lss rfl rfl rfl) (congrArg Value.bool ((decide_eq_false (by omega)) : _ = false))) rfl rfl rfl ?_
 refine G.nil (GE.then_ (GC.condF rfl (GC.skip (GE.then_ (GC.seq (GC.seq (GC.region ?_)))))))
 refine G.stepD (OD.move rfl rfl) rfl rfl rfl ?_
 refine G.stepD (OD.move rfl rfl) rfl rfl rfl ?_
 refine G.stepD (OD.eqv (OD.neq rfl rfl rfl) (congrArg Value.bool ((bne_same _) : _ = false))) rfl rfl rfl ?_
 refine G.nil (GE.then_ (GC.condF rfl (GC.skip (GE.then_ (GC.seq (GC.region ?_))))))
 refine G.stepD (OD.loadAgg rfl ti24 rfl (i := 8) rfl (us := [.int .i64 (cr), vcd]) rfl rfl) rfl rfl rfl ?_
 refine G.step (OG.call [.agg #[.int .i64 (cr), vcd]] ent12 rfl rfl rfl rfl (by exact (toCartan_s scd (Ent.drop 9 ecd) (by omega)))) rfl rfl rfl ?_
 rintro _ _ ⟨v22, rfl, hs23, rfl⟩
 refine G.step (OG.call [.agg #[.int .i64 (cr), v22]] ent13 rfl rfl rfl rfl (by exact (positiveRoots_w hs23 (Ent.ints (i := 0) rfl) (by omega) ((Ent.drop 10 hg)) ((Ent.drop 10 htab))))) rfl rfl rfl ?_
 rintro v24 _ ⟨_, u25, rfl, hs26, hs27, hs28, rfl⟩
 refine G.stepD (OD.assign rfl rfl) rfl rfl rfl ?_
 refine G.nil (GE.then_ (GC.seq (GC.seq (GC.region ?_))))
 refine G.stepD (OD.move rfl rfl) rfl rfl rfl ?_
 refine G.stepD (OD.move rfl rfl) rfl rfl rfl ?_
 refine G.step (OG.call [v24, v5] ent14 rfl rfl rfl rfl (by exact (eqIntSS_same hs26 (Ent.len (Ent.lst (i := 0) rfl) (by omega)) (fun k hk => Ent.manyInts (i := 1) (k := k) rfl ⟨by omega, hk⟩) (by omega) hs27 hs7 (Ent.len (Ent.lst (i := 8) rfl) (by omega)) (fun k hk => Ent.manyInts (i := 9) (k := k) rfl ⟨by omega, hk⟩) (by omega) hs8 (by omega) (hR2)))) rfl rfl rfl ?_
 rintro _ _ ⟨rfl, rfl⟩
 refine G.stepD (OD.not rfl rfl) rfl rfl rfl ?_
 refine G.nil (GE.then_ (GC.condF rfl (GC.skip (GE.then_ (GC.seq (GC.region ?_))))))
 refine G.stepD (OD.assign rfl rfl) rfl rfl rfl ?_
 refine G.nil (GE.then_ (GC.seq (GC.region ?_)))
 refine G.stepD (OD.move rfl rfl) rfl rfl rfl ?_
 refine G.stepD (OD.move rfl rfl) rfl rfl rfl ?_
 refine G.step (OG.call [v13, .int .i64 (1)] ent18 rfl rfl rfl rfl (by exact (heldIntSS_m hs15 (Ent.len (Ent.lst (i := 3) rfl) (by omega)) (fun k hk => by have h := Ent.manyInts (own := lst 22 v24 u25 :: many (ints 3) u25 (prOfL cr cd) :: ints 3 v22 cd :: lst 22 v13 u14 :: many (ints 3) u14 (mkds 1 (prOfL cr cd)) :: ints 3 v10 (mkd 1 cd.length) :: ints 3 v21 cd :: box g12 28 [.int .i64 (cr), v10] :: lst 22 v5 u6 :: many (ints 3) u6 (prOfL cr cd) :: ints 3 v3 cd :: box g1 24 [.int .i64 (cr), vcd] :: own) (i := 4) (k := k) rfl ⟨by omega, by rw [mkds_len]; exact hk⟩; rwa [mkds_get _ hk] at h) (by omega) hs16 (by omega) (by omega) (hR2)))) rfl rfl rfl ?_
 rintro _ _ ⟨rfl, rfl⟩
 refine G.stepD (OD.assign rfl rfl) rfl rfl rfl ?_
 refine G.nil (GE.then_ (GC.seq (GC.seq (GC.region ?_))))
 refine G.stepD (OD.move rfl rfl) rfl rfl rfl ?_
 refine G.stepD (OD.eqv (OD.lss rfl rfl rfl) (congrArg Value.bool ((decide_eq_false (by omega)) : _ = false))) rfl rfl rfl ?_
 refine G.nil (GE.then_ (GC.condF rfl (GC.skip (GE.then_ (GC.seq (GC.seq (GC.region ?_)))))))
 refine G.stepD (OD.move rfl rfl) rfl rfl rfl ?_
 refine G.stepD (OD.move rfl rfl) rfl rfl rfl ?_
 refine G.stepD (OD.eqv (OD.neq rfl rfl rfl) (congrArg Value.bool ((bne_same _) : _ = false))) rfl rfl rfl ?_
 refine G.nil (GE.then_ (GC.condF rfl (GC.skip (GE.then_ (GC.seq (GC.region ?_))))))
 refine G.stepD (OD.assign rfl rfl) rfl rfl rfl ?_
 refine G.nil (GE.then_ (GC.ret ?_))
 exact GE.body [] 12 (res1 rfl rfl) rfl (⟨rfl, rfl⟩)

end Go.Proofs.YtmckgdekblphoaaGreatDoor
