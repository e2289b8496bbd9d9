/-
  The law on an algebra of matrices.
-/
import Derived.Test.YtbmnnbglipkidaaWAlg
namespace Go.Proofs.Ytbmnnbglipkidaa
set_option linter.unusedVariables false
set_option linter.unusedSimpArgs false
open Go.RowKit
theorem ent4 : ∀ us w, (callFunc 4 us).run Try.prog w = .ok (.enter 4 us) w := fun us w => by kernel_rfl
theorem ent5 : ∀ us w, (callFunc 5 us).run Try.prog w = .ok (.enter 5 us) w := fun us w => by kernel_rfl
theorem ent6 : ∀ us w, (callFunc 6 us).run Try.prog w = .ok (.enter 6 us) w := fun us w => by kernel_rfl
theorem ent7 : ∀ us w, (callFunc 7 us).run Try.prog w = .ok (.enter 7 us) w := fun us w => by kernel_rfl
theorem ent8 : ∀ us w, (callFunc 8 us).run Try.prog w = .ok (.enter 8 us) w := fun us w => by kernel_rfl
theorem ent9 : ∀ us w, (callFunc 9 us).run Try.prog w = .ok (.enter 9 us) w := fun us w => by kernel_rfl
theorem ent10 : ∀ us w, (callFunc 10 us).run Try.prog w = .ok (.enter 10 us) w := fun us w => by kernel_rfl
theorem ent11 : ∀ us w, (callFunc 11 us).run Try.prog w = .ok (.enter 11 us) w := fun us w => by kernel_rfl
theorem ent12 : ∀ us w, (callFunc 12 us).run Try.prog w = .ok (.enter 12 us) w := fun us w => by kernel_rfl
theorem bt4 : BT Try.prog 4 := ⟨fun a b w => by cases a <;> cases b <;> kernel_rfl, fun a b w => by cases a <;> cases b <;> kernel_rfl⟩
set_option maxHeartbeats 4000000 in
set_option maxRecDepth 100000 in
theorem lawAlgebraOf {W : World} {own : List Asn} {vx : Value} {ux : List Value} {hx : List Hd} {dx : List (List Int)}  (sx : IsS vx) (ex : Ent own fun w => Hds w vx ux hx) (mx : ∀ k, k < hx.length → Ent own fun w => Ints w (ux.getD k undef) (dx.getD k [])) (lx : ux.length = hx.length) (kx : dx.length = hx.length) (ax : AllS ux)  (hlx : hx.length ≤ 9223372036854775807) (hle : ∀ k, k < hx.length → (dx.getD k []).length ≤ 9223372036854775807) : Spec Try.prog 3 [vx] W own (fun v ow => v = .bool (true) ∧ ow = own) := by
 have hrl := alD_len hx dx kx
 refine Spec.enter Try.f3 _ Try.func3 rfl (n := 96) rfl rfl ?_
 refine GC.seq (GC.region ?_)
 refine G.stepD (OD.assign rfl rfl) rfl rfl rfl ?_
 refine G.nil (GE.then_ (GC.seq (GC.region ?_)))
 refine G.stepD (OD.assign rfl rfl) rfl rfl rfl ?_
 refine G.nil (GE.then_ (GC.seq (GC.region ?_)))
 refine G.stepD (OD.move rfl rfl) rfl rfl rfl ?_
 refine G.stepD (OD.move rfl rfl) rfl rfl rfl ?_
 refine G.step (OG.call [vx, .int .i64 (1048576)] ent4 rfl rfl rfl rfl (by exact (szMatrixS_s sx ex (fun k hk => ((mx k hk))) lx kx ax (by omega) (hlx) (hle)))) rfl rfl rfl ?_
 rintro _ _ ⟨rfl, hzz⟩; obtain rfl := hzz.symm
 refine G.stepD (OD.assign rfl rfl) rfl rfl rfl ?_
 refine G.nil (GE.then_ (GC.seq (GC.seq (GC.region ?_))))
 refine G.stepD (OD.move rfl rfl) rfl rfl rfl ?_
 refine G.stepD (OD.lss rfl rfl rfl) rfl rfl rfl ?_
 refine G.nil (GE.then_ ?_)
 refine GC.cond rfl (fun hc1 => ?_) (fun hc1 => ?_)
 replace hc1 := of_decide_eq_true hc1
 refine GC.seq (GC.region ?_)
 refine G.stepD (OD.assign rfl rfl) rfl rfl rfl ?_
 refine G.nil (GE.then_ (GC.ret (GE.passR ?_)))
 exact GE.body [] 0 (res1 rfl rfl) rfl (⟨rfl, rfl⟩)
 replace hc1 := of_decide_eq_false hc1
 have hc1r := szM_ok hc1
 have hle2 : ∀ k, k < hx.length → (dx.getD k []).length ≤ 1073741824 := fun k hk => by have := hc1r.2.2 k (by omega); omega
 have hsm := hc1r.2.1
 have hmb := mkN_bd (ds := dx) (k := dx.length) (by omega) (by omega) (Nat.le_refl _)
 refine GC.skip (GE.then_ (GC.seq (GC.region ?_)))
 refine G.stepD (OD.move rfl rfl) rfl rfl rfl ?_
 refine G.step (OG.call [vx] ent6 rfl rfl rfl rfl (by exact (toMatrixS_s sx ex (fun k hk => ((mx k hk))) lx kx ax (by omega) (hle2)))) rfl rfl rfl ?_
 rintro v2 _ ⟨_, u3, rfl, hs4, hs5, hs6, rfl⟩
 refine G.step (OG.call [v2] ent5 rfl rfl rfl rfl (by exact (specAlgebraOf_w hs4 (Ent.hds (i := 0) rfl) (fun k hk => Ent.manyInts (i := 1) (k := k) rfl ⟨by omega, by omega⟩) (by omega) (by omega) hs5 (by omega) (hle2)))) rfl rfl rfl ?_
 rintro _ _ ⟨v7, rfl, hs8, rfl⟩
 refine G.stepD (OD.move rfl rfl) rfl rfl rfl ?_
 refine G.stepD (OD.extract rfl rfl rfl) rfl rfl rfl ?_
 refine G.stepD (OD.extract rfl rfl rfl) rfl rfl rfl ?_
 refine G.step (OG.alloc rfl ti26 (zs := [.int .i64 (0), .int .i64 (0), .slice none 0 0]) rfl) rfl rfl rfl ?_
 rintro _ _ ⟨g9, rfl, rfl⟩
 refine G.stepD0 (OD.store rfl ti26 rfl rfl (us := [.int .i64 (alP hx dx), .int .i64 (alN hx dx), v7]) rfl rfl (allC rfl (allC rfl (allC (IsS.one hs8) rfl))) (i := 0) rfl rfl) rfl rfl ?_
 refine G.stepD (OD.assign rfl rfl) rfl rfl rfl ?_
 refine G.nil (GE.then_ (GC.seq (GC.region ?_)))
 refine G.stepD (OD.move rfl rfl) rfl rfl rfl ?_
 refine G.step (OG.call [vx] ent6 rfl rfl rfl rfl (by exact (toMatrixS_s sx (Ent.drop 4 ex) (fun k hk => (Ent.drop 4 (mx k hk))) lx kx ax (by omega) (hle2)))) rfl rfl rfl ?_
 rintro v10 _ ⟨_, u11, rfl, hs12, hs13, hs14, rfl⟩
 refine G.stepD (OD.assign rfl rfl) rfl rfl rfl ?_
 refine G.nil (GE.then_ (GC.seq (GC.region ?_)))
 refine G.stepD (OD.move rfl rfl) rfl rfl rfl ?_
 refine G.step (OG.call [v10] ent7 rfl rfl rfl rfl (by exact (algebraOf_w hs12 (Ent.hds (i := 0) rfl) (fun k hk => Ent.manyInts (i := 1) (k := k) rfl ⟨by omega, by omega⟩) (by omega) (by omega) hs13 (by omega) (hle2)))) rfl rfl rfl ?_
 rintro _ _ ⟨v15, rfl, hs16, rfl⟩
 refine G.stepD (OD.move rfl rfl) rfl rfl rfl ?_
 refine G.stepD (OD.extract rfl rfl rfl) rfl rfl rfl ?_
 refine G.stepD (OD.extract rfl rfl rfl) rfl rfl rfl ?_
 refine G.step (OG.alloc rfl ti26 (zs := [.int .i64 (0), .int .i64 (0), .slice none 0 0]) rfl) rfl rfl rfl ?_
 rintro _ _ ⟨g17, rfl, rfl⟩
 refine G.stepD0 (OD.store rfl ti26 rfl rfl (us := [.int .i64 (alP hx dx), .int .i64 (alN hx dx), v15]) rfl rfl (allC rfl (allC rfl (allC (IsS.one hs16) rfl))) (i := 0) rfl rfl) rfl rfl ?_
 refine G.stepD (OD.assign rfl rfl) rfl rfl rfl ?_
 refine G.nil (GE.then_ (GC.seq (GC.seq (GC.region ?_))))
 refine G.stepD (OD.loadAgg rfl ti26 rfl (i := 0) rfl (us := [.int .i64 (alP hx dx), .int .i64 (alN hx dx), v15]) rfl rfl) rfl rfl rfl ?_
 refine G.stepD (OD.loadAgg rfl ti26 rfl (i := 4) rfl (us := [.int .i64 (alP hx dx), .int .i64 (alN hx dx), v7]) rfl rfl) rfl rfl rfl ?_
 refine G.step (OG.call [.agg #[.int .i64 (alP hx dx), .int .i64 (alN hx dx), v15], .agg #[.int .i64 (alP hx dx), .int .i64 (alN hx dx), v7]] ent8 rfl rfl rfl rfl (by exact (eqAlgebra_same hs16 (Ent.ints (i := 1) rfl) hs8 (Ent.ints (i := 5) rfl) (by omega)))) rfl rfl rfl ?_
 rintro _ _ ⟨rfl, rfl⟩
 refine G.stepD (OD.not rfl rfl) rfl rfl rfl ?_
 refine G.stepD (OD.move rfl rfl) rfl rfl rfl ?_
 refine G.stepGD (OD.move rfl rfl) rfl rfl rfl rfl rfl ?_
 refine G.stepGD (OD.move rfl rfl) rfl rfl rfl rfl rfl ?_
 refine G.stepGD (OD.eqv (OD.neqB bt4 rfl rfl rfl) (congrArg Value.bool (bneB_same _))) rfl rfl rfl rfl rfl ?_
 refine G.stepD (OD.pickF rfl rfl rfl) rfl rfl rfl ?_
 refine G.nil (GE.then_ (GC.condF rfl (GC.skip (GE.then_ (GC.seq (GC.seq (GC.region ?_)))))))
 refine G.stepD (OD.move rfl rfl) rfl rfl rfl ?_
 refine G.stepD (OD.move rfl rfl) rfl rfl rfl ?_
 refine G.step (OG.call [vx] ent6 rfl rfl rfl rfl (by exact (toMatrixS_s sx (Ent.drop 8 ex) (fun k hk => (Ent.drop 8 (mx k hk))) lx kx ax (by omega) (hle2)))) rfl rfl rfl ?_
 rintro v18 _ ⟨_, u19, rfl, hs20, hs21, hs22, rfl⟩
 refine G.step (OG.call [v10, v18] ent9 rfl rfl rfl rfl (by exact (eqMatrixS_same hs12 (Ent.hds (i := 4) rfl) (fun k hk => Ent.manyInts (i := 5) (k := k) rfl ⟨by omega, by omega⟩) (by omega) (by omega) hs13 hs20 (Ent.hds (i := 0) rfl) (fun k hk => Ent.manyInts (i := 1) (k := k) rfl ⟨by omega, by omega⟩) (by omega) (by omega) hs21 (by omega) (hle)))) rfl rfl rfl ?_
 rintro _ _ ⟨rfl, rfl⟩
 refine G.stepD (OD.not rfl rfl) rfl rfl rfl ?_
 refine G.nil (GE.then_ (GC.condF rfl (GC.skip (GE.then_ (GC.seq (GC.region ?_))))))
 refine G.stepD (OD.assign rfl rfl) rfl rfl rfl ?_
 refine G.nil (GE.then_ (GC.seq (GC.region ?_)))
 refine G.stepD (OD.move rfl rfl) rfl rfl rfl ?_
 refine G.stepD (OD.move rfl rfl) rfl rfl rfl ?_
 refine G.at [4, 4, 0, 0, 0, 0, 0, 0, 0, 0] 0 (env' := [(0, vx), (2, .bool false), (14, vx), (15, .int .i64 (1048576)), (16, .int .i64 (szM dx 1048576)), (3, .int .i64 (szM dx 1048576)), (17, .int .i64 (szM dx 1048576)), (18, .bool (decide (szM dx 1048576 < 0))), (20, vx), (21, v2), (22, .tuple #[.agg #[.int .i64 (alP hx dx), .int .i64 (alN hx dx), v7], .bool (alOk hx dx)]), (19, .tuple #[.agg #[.int .i64 (alP hx dx), .int .i64 (alN hx dx), v7], .bool (alOk hx dx)]), (23, .agg #[.int .i64 (alP hx dx), .int .i64 (alN hx dx), v7]), (24, .bool (alOk hx dx)), (4, .pointer (some ⟨g9, 0, none⟩)), (5, .bool (alOk hx dx)), (25, vx), (26, v10), (6, v10), (28, v10), (29, .tuple #[.agg #[.int .i64 (alP hx dx), .int .i64 (alN hx dx), v15], .bool (alOk hx dx)]), (27, .tuple #[.agg #[.int .i64 (alP hx dx), .int .i64 (alN hx dx), v15], .bool (alOk hx dx)]), (30, .agg #[.int .i64 (alP hx dx), .int .i64 (alN hx dx), v15]), (31, .bool (alOk hx dx)), (7, .pointer (some ⟨g17, 0, none⟩)), (8, .bool (alOk hx dx)), (32, .agg #[.int .i64 (alP hx dx), .int .i64 (alN hx dx), v15]), (33, .agg #[.int .i64 (alP hx dx), .int .i64 (alN hx dx), v7]), (34, .bool true), (35, .bool false), (36, .bool false), (37, .bool (alOk hx dx)), (38, .bool (alOk hx dx)), (39, .bool false), (40, .bool false), (41, v10), (42, vx), (43, v18), (44, .bool true), (45, .bool false), (9, .int .i64 (1)), (46, v10), (47, .int .i64 (1))]) ⟨rfl, rfl, rfl, rfl, rfl, rfl, rfl, rfl, rfl, rfl, rfl, rfl, rfl, rfl, rfl, rfl, rfl, rfl, rfl, rfl, rfl, rfl, rfl, rfl, rfl, rfl, rfl, rfl, rfl, rfl, rfl, rfl, rfl, rfl, rfl, rfl, rfl, rfl, rfl, rfl, rfl, rfl, rfl, trivial⟩ (own' := hds 41 v10 u11 hx :: many (ints 3) u11 dx :: hds 41 v18 u19 hx :: many (ints 3) u19 dx :: box g17 26 [.int .i64 (alP hx dx), .int .i64 (alN hx dx), v15] :: ints 3 v15 (alD hx dx) :: box g9 26 [.int .i64 (alP hx dx), .int .i64 (alN hx dx), v7] :: ints 3 v7 (alD hx dx) :: hds 41 v2 u3 hx :: many (ints 3) u3 dx :: own) rfl ?_
 refine G.step (OG.call [v10, .int .i64 (1)] ent10 rfl rfl rfl rfl (by exact (markMatrixS_s hs12 hs13 (by omega) (by omega) (by omega) (by omega) (by omega) (hle2)))) rfl rfl rfl ?_
 rintro _ _ ⟨rfl, rfl⟩
 refine G.stepD (OD.assign rfl rfl) rfl rfl rfl ?_
 refine G.nil (GE.then_ (GC.seq (GC.seq (GC.region ?_))))
 refine G.stepD (OD.move rfl rfl) rfl rfl rfl ?_
 refine G.stepD (OD.eqv (OD.lss rfl rfl rfl) (congrArg Value.bool ((decide_eq_false (by omega)) : _ = false))) rfl rfl rfl ?_
 refine G.stepD (OD.move rfl rfl) rfl rfl rfl ?_
 refine G.stepGD (OD.loadAgg rfl ti26 rfl (i := 2) rfl (us := [.int .i64 (alP hx dx), .int .i64 (alN hx dx), v15]) rfl rfl) rfl rfl rfl rfl rfl ?_
 refine G.stepGD (OD.loadAgg rfl ti26 rfl (i := 4) rfl (us := [.int .i64 (alP hx dx), .int .i64 (alN hx dx), v7]) rfl rfl) rfl rfl rfl rfl rfl ?_
 refine G.stepG (OG.call [.agg #[.int .i64 (alP hx dx), .int .i64 (alN hx dx), v15], .agg #[.int .i64 (alP hx dx), .int .i64 (alN hx dx), v7]] ent8 rfl rfl rfl rfl (by exact (eqAlgebra_same hs16 (Ent.ints (i := 3) rfl) hs8 (Ent.ints (i := 5) rfl) (by omega)))) rfl rfl rfl rfl rfl ?_
 rintro _ _ ⟨rfl, rfl⟩
 refine G.stepGD (OD.not rfl rfl) rfl rfl rfl rfl rfl ?_
 refine G.stepD (OD.pickF rfl rfl rfl) rfl rfl rfl ?_
 refine G.stepD (OD.move rfl rfl) rfl rfl rfl ?_
 refine G.stepGD (OD.move rfl rfl) rfl rfl rfl rfl rfl ?_
 refine G.stepGD (OD.move rfl rfl) rfl rfl rfl rfl rfl ?_
 refine G.stepGD (OD.eqv (OD.neqB bt4 rfl rfl rfl) (congrArg Value.bool (bneB_same _))) rfl rfl rfl rfl rfl ?_
 refine G.stepD (OD.pickF rfl rfl rfl) rfl rfl rfl ?_
 refine G.nil (GE.then_ (GC.condF rfl (GC.skip (GE.then_ (GC.seq (GC.region ?_))))))
 refine G.stepD (OD.assign rfl rfl) rfl rfl rfl ?_
 refine G.nil (GE.then_ (GC.seq (GC.region ?_)))
 refine G.stepD (OD.loadAgg rfl ti26 rfl (i := 2) rfl (us := [.int .i64 (alP hx dx), .int .i64 (alN hx dx), v15]) rfl rfl) rfl rfl rfl ?_
 refine G.stepD (OD.move rfl rfl) rfl rfl rfl ?_
 refine G.at [3] 0 (env' := [(0, vx), (2, .bool false), (14, vx), (15, .int .i64 (1048576)), (16, .int .i64 (szM dx 1048576)), (3, .int .i64 (szM dx 1048576)), (17, .int .i64 (szM dx 1048576)), (18, .bool (decide (szM dx 1048576 < 0))), (20, vx), (21, v2), (22, .tuple #[.agg #[.int .i64 (alP hx dx), .int .i64 (alN hx dx), v7], .bool (alOk hx dx)]), (19, .tuple #[.agg #[.int .i64 (alP hx dx), .int .i64 (alN hx dx), v7], .bool (alOk hx dx)]), (23, .agg #[.int .i64 (alP hx dx), .int .i64 (alN hx dx), v7]), (24, .bool (alOk hx dx)), (4, .pointer (some ⟨g9, 0, none⟩)), (5, .bool (alOk hx dx)), (25, vx), (26, v10), (6, v10), (28, v10), (29, .tuple #[.agg #[.int .i64 (alP hx dx), .int .i64 (alN hx dx), v15], .bool (alOk hx dx)]), (27, .tuple #[.agg #[.int .i64 (alP hx dx), .int .i64 (alN hx dx), v15], .bool (alOk hx dx)]), (30, .agg #[.int .i64 (alP hx dx), .int .i64 (alN hx dx), v15]), (31, .bool (alOk hx dx)), (7, .pointer (some ⟨g17, 0, none⟩)), (8, .bool (alOk hx dx)), (32, .agg #[.int .i64 (alP hx dx), .int .i64 (alN hx dx), v15]), (33, .agg #[.int .i64 (alP hx dx), .int .i64 (alN hx dx), v7]), (34, .bool true), (35, .bool false), (36, .bool false), (37, .bool (alOk hx dx)), (38, .bool (alOk hx dx)), (39, .bool false), (40, .bool false), (41, v10), (42, vx), (43, v18), (44, .bool true), (45, .bool false), (46, v10), (47, .int .i64 (1)), (48, .int .i64 (1 + (mkN dx dx.length : Nat))), (9, .int .i64 (1 + (mkN dx dx.length : Nat))), (49, .int .i64 (1 + (mkN dx dx.length : Nat))), (50, .bool false), (51, .bool false), (52, .agg #[.int .i64 (alP hx dx), .int .i64 (alN hx dx), v15]), (53, .agg #[.int .i64 (alP hx dx), .int .i64 (alN hx dx), v7]), (54, .bool true), (55, .bool false), (56, .bool false), (57, .bool false), (58, .bool (alOk hx dx)), (59, .bool (alOk hx dx)), (60, .bool false), (61, .bool false), (10, .int .i64 (1)), (62, .agg #[.int .i64 (alP hx dx), .int .i64 (alN hx dx), v15]), (63, .int .i64 (1))]) ⟨rfl, rfl, rfl, rfl, rfl, rfl, rfl, rfl, rfl, rfl, rfl, rfl, rfl, rfl, rfl, rfl, rfl, rfl, rfl, rfl, rfl, rfl, rfl, rfl, rfl, rfl, rfl, rfl, rfl, rfl, rfl, rfl, rfl, rfl, rfl, rfl, rfl, rfl, rfl, rfl, rfl, rfl, rfl, rfl, rfl, rfl, rfl, rfl, rfl, rfl, rfl, rfl, rfl, rfl, rfl, rfl, rfl, rfl, rfl, rfl, trivial⟩ (own' := ints 3 v15 (alD hx dx) :: hds 41 v18 u19 hx :: many (ints 3) u19 dx :: box g17 26 [.int .i64 (alP hx dx), .int .i64 (alN hx dx), v15] :: box g9 26 [.int .i64 (alP hx dx), .int .i64 (alN hx dx), v7] :: ints 3 v7 (alD hx dx) :: hds 41 v2 u3 hx :: many (ints 3) u3 dx :: own) rfl ?_
 refine G.step (OG.call [.agg #[.int .i64 (alP hx dx), .int .i64 (alN hx dx), v15], .int .i64 (1)] ent11 rfl rfl rfl rfl (by exact (markAlgebra_s hs16 (by omega) (by omega)))) rfl rfl rfl ?_
 rintro _ _ ⟨rfl, rfl⟩
 refine G.stepD (OD.assign rfl rfl) rfl rfl rfl ?_
 refine G.nil (GE.then_ (GC.seq (GC.region ?_)))
 refine G.stepD (OD.assign rfl rfl) rfl rfl rfl ?_
 refine G.nil (GE.then_ (GC.seq (GC.region ?_)))
 refine G.stepD (OD.loadAgg rfl ti26 rfl (i := 3) rfl (us := [.int .i64 (alP hx dx), .int .i64 (alN hx dx), v15]) rfl rfl) rfl rfl rfl ?_
 refine G.stepD (OD.move rfl rfl) rfl rfl rfl ?_
 refine G.step (OG.call [.agg #[.int .i64 (alP hx dx), .int .i64 (alN hx dx), v15], .int .i64 (1)] ent12 rfl rfl rfl rfl (by exact (heldAlgebra_m hs16 (Ent.ints (i := 0) rfl) (by omega) (by omega)))) rfl rfl rfl ?_
 rintro _ _ ⟨rfl, rfl⟩
 refine G.stepD (OD.assign rfl rfl) rfl rfl rfl ?_
 refine G.nil (GE.then_ (GC.seq (GC.seq (GC.region ?_))))
 refine G.stepD (OD.move rfl rfl) rfl rfl rfl ?_
 refine G.stepD (OD.eqv (OD.lss rfl rfl rfl) (congrArg Value.bool ((decide_eq_false (by omega)) : _ = false))) rfl rfl rfl ?_
 refine G.nil (GE.then_ (GC.condF rfl (GC.skip (GE.then_ (GC.seq (GC.seq (GC.region ?_)))))))
 refine G.stepD (OD.move rfl rfl) rfl rfl rfl ?_
 refine G.stepD (OD.move rfl rfl) rfl rfl rfl ?_
 refine G.stepD (OD.eqv (OD.neq rfl rfl rfl) (congrArg Value.bool ((bne_same _) : _ = false))) rfl rfl rfl ?_
 refine G.nil (GE.then_ (GC.condF rfl (GC.skip (GE.then_ (GC.seq (GC.region ?_))))))
 refine G.stepD (OD.move rfl rfl) rfl rfl rfl ?_
 refine G.step (OG.call [vx] ent6 rfl rfl rfl rfl (by exact (toMatrixS_s sx (Ent.drop 8 ex) (fun k hk => (Ent.drop 8 (mx k hk))) lx kx ax (by omega) (hle2)))) rfl rfl rfl ?_
 rintro v23 _ ⟨_, u24, rfl, hs25, hs26, hs27, rfl⟩
 refine G.step (OG.call [v23] ent7 rfl rfl rfl rfl (by exact (algebraOf_w hs25 (Ent.hds (i := 0) rfl) (fun k hk => Ent.manyInts (i := 1) (k := k) rfl ⟨by omega, by omega⟩) (by omega) (by omega) hs26 (by omega) (hle2)))) rfl rfl rfl ?_
 rintro _ _ ⟨v28, rfl, hs29, rfl⟩
 refine G.stepD (OD.move rfl rfl) rfl rfl rfl ?_
 refine G.stepD (OD.extract rfl rfl rfl) rfl rfl rfl ?_
 refine G.stepD (OD.extract rfl rfl rfl) rfl rfl rfl ?_
 refine G.step (OG.alloc rfl ti26 (zs := [.int .i64 (0), .int .i64 (0), .slice none 0 0]) rfl) rfl rfl rfl ?_
 rintro _ _ ⟨g30, rfl, rfl⟩
 refine G.stepD0 (OD.store rfl ti26 rfl rfl (us := [.int .i64 (alP hx dx), .int .i64 (alN hx dx), v28]) rfl rfl (allC rfl (allC rfl (allC (IsS.one hs29) rfl))) (i := 0) rfl rfl) rfl rfl ?_
 refine G.stepD (OD.assign rfl rfl) rfl rfl rfl ?_
 refine G.nil (GE.then_ (GC.seq (GC.seq (GC.region ?_))))
 refine G.stepD (OD.loadAgg rfl ti26 rfl (i := 0) rfl (us := [.int .i64 (alP hx dx), .int .i64 (alN hx dx), v28]) rfl rfl) rfl rfl rfl ?_
 refine G.stepD (OD.loadAgg rfl ti26 rfl (i := 8) rfl (us := [.int .i64 (alP hx dx), .int .i64 (alN hx dx), v7]) rfl rfl) rfl rfl rfl ?_
 refine G.step (OG.call [.agg #[.int .i64 (alP hx dx), .int .i64 (alN hx dx), v28], .agg #[.int .i64 (alP hx dx), .int .i64 (alN hx dx), v7]] ent8 rfl rfl rfl rfl (by exact (eqAlgebra_same hs29 (Ent.ints (i := 1) rfl) hs8 (Ent.ints (i := 9) rfl) (by omega)))) rfl rfl rfl ?_
 rintro _ _ ⟨rfl, rfl⟩
 refine G.stepD (OD.not rfl rfl) rfl rfl rfl ?_
 refine G.stepD (OD.move rfl rfl) rfl rfl rfl ?_
 refine G.stepGD (OD.move rfl rfl) rfl rfl rfl rfl rfl ?_
 refine G.stepGD (OD.move rfl rfl) rfl rfl rfl rfl rfl ?_
 refine G.stepGD (OD.eqv (OD.neqB bt4 rfl rfl rfl) (congrArg Value.bool (bneB_same _))) rfl rfl rfl rfl rfl ?_
 refine G.stepD (OD.pickF rfl rfl rfl) rfl rfl rfl ?_
 refine G.nil (GE.then_ (GC.condF rfl (GC.skip (GE.then_ (GC.seq (GC.region ?_))))))
 refine G.stepD (OD.assign rfl rfl) rfl rfl rfl ?_
 refine G.nil (GE.then_ (GC.seq (GC.region ?_)))
 refine G.stepD (OD.loadAgg rfl ti26 rfl (i := 7) rfl (us := [.int .i64 (alP hx dx), .int .i64 (alN hx dx), v15]) rfl rfl) rfl rfl rfl ?_
 refine G.stepD (OD.move rfl rfl) rfl rfl rfl ?_
 refine G.step (OG.call [.agg #[.int .i64 (alP hx dx), .int .i64 (alN hx dx), v15], .int .i64 (1)] ent12 rfl rfl rfl rfl (by exact (heldAlgebra_m hs16 (Ent.ints (i := 4) rfl) (by omega) (by omega)))) rfl rfl rfl ?_
 rintro _ _ ⟨rfl, rfl⟩
 refine G.stepD (OD.assign rfl rfl) rfl rfl rfl ?_
 refine G.nil (GE.then_ (GC.seq (GC.seq (GC.region ?_))))
 refine G.stepD (OD.move rfl rfl) rfl rfl rfl ?_
 refine G.stepD (OD.eqv (OD.lss rfl rfl rfl) (congrArg Value.bool ((decide_eq_false (by omega)) : _ = false))) rfl rfl rfl ?_
 refine G.nil (GE.then_ (GC.condF rfl (GC.skip (GE.then_ (GC.seq (GC.seq (GC.region ?_)))))))
 refine G.stepD (OD.move rfl rfl) rfl rfl rfl ?_
 refine G.stepD (OD.move rfl rfl) rfl rfl rfl ?_
 refine G.stepD (OD.eqv (OD.neq rfl rfl rfl) (congrArg Value.bool ((bne_same _) : _ = false))) rfl rfl rfl ?_
 refine G.nil (GE.then_ (GC.condF rfl (GC.skip (GE.then_ (GC.seq (GC.region ?_))))))
 refine G.stepD (OD.assign rfl rfl) rfl rfl rfl ?_
 refine G.nil (GE.then_ (GC.ret ?_))
 exact GE.body [] 12 (res1 rfl rfl) rfl (⟨rfl, rfl⟩)
end Go.Proofs.Ytbmnnbglipkidaa
