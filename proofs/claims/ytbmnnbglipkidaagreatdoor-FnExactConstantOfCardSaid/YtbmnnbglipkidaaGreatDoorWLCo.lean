/-
  The law on constants of roots.
-/
import Derived.Test.YtbmnnbglipkidaaGreatDoorFct
import Derived.Test.YtbmnnbglipkidaaGreatDoorWCns
import Derived.Test.YtbmnnbglipkidaaGreatDoorWCnS
namespace Go.Proofs.YtbmnnbglipkidaaGreatDoor
set_option linter.unusedVariables false
set_option linter.unusedSimpArgs false
open Go.RowKit
theorem ent8 : ∀ us w, (callFunc 8 us).run Tryz.prog w = .ok (.enter 8 us) w := fun us w => by kernel_rfl
theorem ent9 : ∀ us w, (callFunc 9 us).run Tryz.prog w = .ok (.enter 9 us) w := fun us w => by kernel_rfl
theorem ent10 : ∀ us w, (callFunc 10 us).run Tryz.prog w = .ok (.enter 10 us) w := fun us w => by kernel_rfl
theorem ent12 : ∀ us w, (callFunc 12 us).run Tryz.prog w = .ok (.enter 12 us) w := fun us w => by kernel_rfl
theorem ent13 : ∀ us w, (callFunc 13 us).run Tryz.prog w = .ok (.enter 13 us) w := fun us w => by kernel_rfl
set_option maxHeartbeats 4000000 in
set_option maxRecDepth 100000 in
theorem lawConstantOf {W : World} {own : List Asn} {cr : Int} {vcd : Value} {cd : List Int} {vx : Value} {x : List Int} {vy : Value} {y : List Int}  (scd : IsS vcd) (ecd : Ent own fun w => Ints w vcd cd)   (sx : IsS vx) (ex : Ent own fun w => Ints w vx x)   (sy : IsS vy) (ey : Ent own fun w => Ints w vy y)  (hcd : cd.length ≤ 9223372036854775807) (hx : x.length ≤ 9223372036854775807) (hy : y.length ≤ 9223372036854775807) (h64x : All64 x) (h64y : All64 y) (hg : Ent own fun w => ∃ m, w.cell? ⟨Tryz.l146_ren.g 1, 0, none⟩ = some (.int .i64 m)) (htab : Ent own Pow10) : Spec Tryz.prog 3 [.agg #[.int .i64 (cr), vcd], vx, vy] W own (fun v ow => v = .bool (true) ∧ ow = own) := by
 refine Spec.enter Tryz.f3 _ Tryz.func3 rfl (n := 59) rfl rfl ?_
 refine Zs (Zr ?_)
 refine G.step (OG.box (cs := [.int .i64 (cr), vcd]) rfl rfl rfl) rfl rfl rfl ?_
 rintro _ _ ⟨g1, rfl, rfl⟩
 refine Za rfl rfl rfl rfl rfl ?_
 refine Zn (Zt (Zs (Zs (Zr ?_))))
 refine Zm rfl rfl rfl rfl rfl ?_
 refine G.stepD (OD.len rfl rfl et22 rfl (Ent.drop 1 ex)) rfl rfl rfl ?_
 refine G.stepD (OD.gtr rfl rfl rfl) rfl rfl rfl ?_
 refine Zn (Zt ?_)
 refine GC.cond rfl (fun hc2 => ?_) (fun hc2 => ?_)
 replace hc2 := of_decide_eq_true hc2
 refine Zs (Zr ?_)
 refine Za rfl rfl rfl rfl rfl ?_
 refine Zn (Zt (GC.ret (GE.passR ?_)))
 exact GE.body [] 1 (res1 rfl rfl) rfl (⟨rfl, rfl⟩)
 replace hc2 := of_decide_eq_false hc2
 refine Zk (Zt (Zs (Zs (Zr ?_))))
 refine Zm rfl rfl rfl rfl rfl ?_
 refine G.stepD (OD.len rfl rfl et22 rfl (Ent.drop 1 ey)) rfl rfl rfl ?_
 refine G.stepD (OD.gtr rfl rfl rfl) rfl rfl rfl ?_
 refine Zn (Zt ?_)
 refine GC.cond rfl (fun hc3 => ?_) (fun hc3 => ?_)
 replace hc3 := of_decide_eq_true hc3
 refine Zs (Zr ?_)
 refine Za rfl rfl rfl rfl rfl ?_
 refine Zn (Zt (GC.ret (GE.passR ?_)))
 exact GE.body [] 1 (res1 rfl rfl) rfl (⟨rfl, rfl⟩)
 replace hc3 := of_decide_eq_false hc3
 refine Zk (Zt (Zs (Zr ?_)))
 refine Za rfl rfl rfl rfl rfl ?_
 refine Zn (Zt (Zs (Zr ?_)))
 refine G.stepD (OD.loadAgg rfl ti24 rfl (i := 0) rfl (us := [.int .i64 (cr), vcd]) rfl rfl) rfl rfl rfl ?_
 refine Zm rfl rfl rfl rfl rfl ?_
 refine G.step (OG.call [.agg #[.int .i64 (cr), vcd], .int .i64 (1048576)] ent8 rfl rfl rfl rfl (by exact (szCartan_s scd (Ent.drop 1 ecd) (by omega) (by omega)))) rfl rfl rfl ?_
 rintro _ _ ⟨rfl, rfl⟩
 refine Za rfl rfl rfl rfl rfl ?_
 refine Zn (Zt (Zs (Zs (Zr ?_))))
 refine Zm rfl rfl rfl rfl rfl ?_
 refine G.stepD (OD.lss rfl rfl rfl) rfl rfl rfl ?_
 refine Zn (Zt ?_)
 refine GC.cond rfl (fun hc4 => ?_) (fun hc4 => ?_)
 replace hc4 := of_decide_eq_true hc4
 refine Zs (Zr ?_)
 refine Za rfl rfl rfl rfl rfl ?_
 refine Zn (Zt (GC.ret (GE.passR ?_)))
 exact GE.body [] 1 (res1 rfl rfl) rfl (⟨rfl, rfl⟩)
 replace hc4 := of_decide_eq_false hc4
 have hc4z := szG_ok hc4
 refine Zk (Zt (Zs (Zr ?_)))
 refine G.stepD (OD.loadAgg rfl ti24 rfl (i := 0) rfl (us := [.int .i64 (cr), vcd]) rfl rfl) rfl rfl rfl ?_
 refine G.step (OG.call [.agg #[.int .i64 (cr), vcd]] ent10 rfl rfl rfl rfl (by exact (toCartan_s scd (Ent.drop 1 ecd) (by omega)))) rfl rfl rfl ?_
 rintro _ _ ⟨v5, rfl, hs6, rfl⟩
 refine Zm rfl rfl rfl rfl rfl ?_
 refine G.step (OG.call [vx] ent11 rfl rfl rfl rfl (by exact (toIntS_s sx (Ent.drop 2 ex) (by omega)))) rfl rfl rfl ?_
 rintro v7 _ ⟨_, rfl, hs8, rfl⟩
 refine Zm rfl rfl rfl rfl rfl ?_
 refine G.step (OG.call [vy] ent11 rfl rfl rfl rfl (by exact (toIntS_s sy (Ent.drop 3 ey) (by omega)))) rfl rfl rfl ?_
 rintro v9 _ ⟨_, rfl, hs10, rfl⟩
 refine G.step (OG.call [.agg #[.int .i64 (cr), v5], v7, v9] ent9 rfl rfl rfl rfl (by exact (specConstantOf_w hs6 (Ent.ints (i := 2) rfl) hs8 (Ent.ints (i := 1) rfl) hs10 (Ent.ints (i := 0) rfl) (by omega) (by omega) (by omega) (h64x) (h64y)))) rfl rfl rfl ?_
 rintro _ _ ⟨rfl, rfl⟩
 refine Za rfl rfl rfl rfl rfl ?_
 refine Zn (Zt (Zs (Zr ?_)))
 refine G.stepD (OD.loadAgg rfl ti24 rfl (i := 3) rfl (us := [.int .i64 (cr), vcd]) rfl rfl) rfl rfl rfl ?_
 refine G.step (OG.call [.agg #[.int .i64 (cr), vcd]] ent10 rfl rfl rfl rfl (by exact (toCartan_s scd (Ent.drop 4 ecd) (by omega)))) rfl rfl rfl ?_
 rintro _ _ ⟨v11, rfl, hs12, rfl⟩
 refine G.step (OG.alloc rfl ti27 (zs := [.int .i64 (0), .slice none 0 0]) rfl) rfl rfl rfl ?_
 rintro _ _ ⟨g13, rfl, rfl⟩
 refine G.stepD0 (OD.store rfl ti27 rfl rfl (us := [.int .i64 (cr), v11]) rfl rfl (allC rfl (allC (IsS.one hs12) rfl)) (i := 0) rfl rfl) rfl rfl ?_
 refine Zn (Zt (Zs (Zr ?_)))
 refine Zm rfl rfl rfl rfl rfl ?_
 refine G.step (OG.call [vx] ent11 rfl rfl rfl rfl (by exact (toIntS_s sx (Ent.drop 6 ex) (by omega)))) rfl rfl rfl ?_
 rintro v14 _ ⟨_, rfl, hs15, rfl⟩
 refine Za rfl rfl rfl rfl rfl ?_
 refine Zn (Zt (Zs (Zr ?_)))
 refine Zm rfl rfl rfl rfl rfl ?_
 refine G.step (OG.call [vy] ent11 rfl rfl rfl rfl (by exact (toIntS_s sy (Ent.drop 7 ey) (by omega)))) rfl rfl rfl ?_
 rintro v16 _ ⟨_, rfl, hs17, rfl⟩
 refine Za rfl rfl rfl rfl rfl ?_
 refine Zn (Zt (Zs (Zr ?_)))
 refine G.stepD (OD.loadAgg rfl ti27 rfl (i := 2) rfl (us := [.int .i64 (cr), v11]) rfl rfl) rfl rfl rfl ?_
 refine Zm rfl rfl rfl rfl rfl ?_
 refine Zm rfl rfl rfl rfl rfl ?_
 refine G.step (OG.call [.agg #[.int .i64 (cr), v11], v14, v16] ent12 rfl rfl rfl rfl (by exact (constantOf_w hs12 (Ent.ints (i := 3) rfl) hs15 (Ent.ints (i := 1) rfl) hs17 (Ent.ints (i := 0) rfl) (by omega) (by omega) (by omega) (h64x) (h64y) ((Ent.drop 8 hg)) ((Ent.drop 8 htab))))) rfl rfl rfl ?_
 rintro _ _ ⟨rfl, rfl⟩
 refine Za rfl rfl rfl rfl rfl ?_
 refine Zn (Zt (Zs (Zs (Zr ?_))))
 refine Zm rfl rfl rfl rfl rfl ?_
 refine Zm rfl rfl rfl rfl rfl ?_
 refine G.stepD (OD.eqv (OD.neq rfl rfl rfl) (congrArg Value.bool ((bne_same _) : _ = false))) rfl rfl rfl ?_
 refine Zn (Zt (GC.condF rfl (Zk (Zt (Zs (Zs ?_))))))
 refine GC.at [] 0 (env' := [(1, vx), (2, vy), (3, .pointer (some ⟨g1, 0, none⟩)), (9, .pointer (some ⟨g13, 0, none⟩)), (10, v14), (11, v16)]) ⟨rfl,rfl,rfl,rfl,rfl,rfl,trivial⟩ rfl ?_
 refine GC.par (its := [Z0 44 (.agg #[.int .i64 (cr), v11]),
     Z0 45 (.agg #[.int .i64 (cr), vcd]),
     ⟨46, [(1, 45)], [], [], [2], fun ds => .agg #[.int .i64 (cr), ((ds.getD 0 []).getD 0 undef)], fun ds => IsS ((ds.getD 0 []).getD 0 undef), fun ds => [ints 3 ((ds.getD 0 []).getD 0 undef) cd]⟩,
     ⟨47, [(0, 44), (2, 46)], [2], [], [2], fun _ => .bool true, fun _ => True, fun _ => []⟩,
     ⟨48, [(3, 47)], [2], [], [2], fun _ => .bool false, fun _ => True, fun _ => []⟩]) (by kernel_rfl) (by kernel_rfl) (POps.cons ?_ (POps.cons ?_ (POps.cons ?_ (POps.cons ?_ (POps.cons ?_ POps.nil))))) ?_
 exact fun θ R hd => Zq (OD.loadAgg rfl ti27 rfl (i := 2) rfl (us := [.int .i64 (cr), v11]) rfl rfl) rfl rfl trivial rfl
 exact fun θ R hd => Zq (OD.loadAgg rfl ti24 rfl (i := 7) rfl (us := [.int .i64 (cr), vcd]) rfl rfl) rfl rfl trivial rfl
 exact fun θ R ⟨h1d, _⟩ => Opp.plain (OG.imp (OG.call [.agg #[.int .i64 (cr), vcd]] ent10 rfl rfl rfl rfl (by exact (toCartan_s scd (Ent.drop 8 ecd.app) (by omega)))) (by rintro _ _ ⟨v18, rfl, hs19, rfl⟩; exact ⟨[v18], rfl, hs19, rfl⟩)) rfl
 exact fun θ R ⟨h0d, h2d, _⟩ => Zq (OG.call [.agg #[.int .i64 (cr), v11], .agg #[.int .i64 (cr), ((θ 2).getD 0 undef)]] ent13 rfl rfl rfl rfl (by exact (eqCartan_same hs12 (Ent.ints (i := 4) rfl) h2d (Ent.ints (i := 0) rfl) (by omega)))) rfl rfl trivial rfl
 exact fun θ R ⟨h3d, _⟩ => Zq (OD.not rfl rfl) rfl rfl trivial rfl
 intro θ hall
 obtain ⟨_, _, h2a, _, _, _⟩ := hall
 refine G.at [] 0 (env' := [(1, vx), (2, vy), (10, v14), (11, v16), (48, .bool false)]) ⟨rfl,rfl,rfl,rfl,rfl,trivial⟩ (own' := ints 3 ((θ 2).getD 0 undef) cd :: ints 3 v16 y :: ints 3 v14 x :: box g13 27 [.int .i64 (cr), v11] :: ints 3 v11 cd :: ints 3 v9 y :: ints 3 v7 x :: ints 3 v5 cd :: box g1 24 [.int .i64 (cr), vcd] :: own) rfl ?_
 have hs20 : IsS ((θ 2).getD 0 undef) := h2a
 clear h2a
 generalize ((θ 2).getD 0 undef) = v21 at *
 show G _ _ _ [] _ _ _ _
 refine Zn (Zt (GC.condF rfl (Zk (Zt (Zs (Zs (Zr ?_)))))))
 refine Zm rfl rfl rfl rfl rfl ?_
 refine Zm rfl rfl rfl rfl rfl ?_
 refine G.step (OG.call [vx] ent11 rfl rfl rfl rfl (by exact (toIntS_s sx (Ent.drop 9 ex) (by omega)))) rfl rfl rfl ?_
 rintro v22 _ ⟨_, rfl, hs23, rfl⟩
 refine G.step (OG.call [v14, v22] ent14 rfl rfl rfl rfl (by exact (eqIntS_same hs15 (Ent.ints (i := 3) rfl) hs23 (Ent.ints (i := 0) rfl) (by omega)))) rfl rfl rfl ?_
 rintro _ _ ⟨rfl, rfl⟩
 refine G.stepD (OD.not rfl rfl) rfl rfl rfl ?_
 refine Zn (Zt (GC.condF rfl (Zk (Zt (Zs (Zs (Zr ?_)))))))
 refine Zm rfl rfl rfl rfl rfl ?_
 refine Zm rfl rfl rfl rfl rfl ?_
 refine G.step (OG.call [vy] ent11 rfl rfl rfl rfl (by exact (toIntS_s sy (Ent.drop 10 ey) (by omega)))) rfl rfl rfl ?_
 rintro v24 _ ⟨_, rfl, hs25, rfl⟩
 refine G.step (OG.call [v16, v24] ent14 rfl rfl rfl rfl (by exact (eqIntS_same hs17 (Ent.ints (i := 3) rfl) hs25 (Ent.ints (i := 0) rfl) (by omega)))) rfl rfl rfl ?_
 rintro _ _ ⟨rfl, rfl⟩
 refine G.stepD (OD.not rfl rfl) rfl rfl rfl ?_
 refine Zn (Zt (GC.condF rfl (Zk (Zt (Zs (Zr ?_))))))
 refine Za rfl rfl rfl rfl rfl ?_
 refine Zn (Zt (GC.ret ?_))
 exact GE.body [] 11 (res1 rfl rfl) rfl (⟨rfl, rfl⟩)
end Go.Proofs.YtbmnnbglipkidaaGreatDoor
