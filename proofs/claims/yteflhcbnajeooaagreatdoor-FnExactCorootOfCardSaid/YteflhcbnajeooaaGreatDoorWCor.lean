/-
  Coroots: contracts by walks.
-/
import Derived.Test.YteflhcbnajeooaaGreatDoorWLen
import Derived.Test.YteflhcbnajeooaaGreatDoorNewA
namespace Go.Proofs.YteflhcbnajeooaaGreatDoor
set_option linter.unusedVariables false
set_option linter.unusedSimpArgs false
open Go.RowKit

theorem ent11 : ∀ us w, (callFunc 11 us).run Tryz.prog w = .ok (.enter 11 us) w := fun us w => by kernel_rfl
theorem ent13 : ∀ us w, (callFunc 13 us).run Tryz.prog w = .ok (.enter 13 us) w := fun us w => by kernel_rfl
theorem ent16 : ∀ us w, (callFunc 16 us).run Tryz.prog w = .ok (.enter 16 us) w := fun us w => by kernel_rfl
theorem ent17 : ∀ us w, (callFunc 17 us).run Tryz.prog w = .ok (.enter 17 us) w := fun us w => by kernel_rfl
theorem ent19 : ∀ us w, (callFunc 19 us).run Tryz.prog w = .ok (.enter 19 us) w := fun us w => by kernel_rfl
theorem ent20 : ∀ us w, (callFunc 20 us).run Tryz.prog w = .ok (.enter 20 us) w := fun us w => by kernel_rfl
theorem ent22 : ∀ us w, (callFunc 22 us).run Tryz.prog w = .ok (.enter 22 us) w := fun us w => by kernel_rfl
theorem ent31 : ∀ us w, (callFunc 31 us).run Tryz.prog w = .ok (.enter 31 us) w := fun us w => by kernel_rfl
theorem ent32 : ∀ us w, (callFunc 32 us).run Tryz.prog w = .ok (.enter 32 us) w := fun us w => by kernel_rfl
theorem ent58 : ∀ us w, (callFunc 58 us).run Tryz.prog w = .ok (.enter 58 us) w := fun us w => by kernel_rfl
theorem ent59 : ∀ us w, (callFunc 59 us).run Tryz.prog w = .ok (.enter 59 us) w := fun us w => by kernel_rfl
theorem ent60 : ∀ us w, (callFunc 60 us).run Tryz.prog w = .ok (.enter 60 us) w := fun us w => by kernel_rfl
theorem ent89 : ∀ us w, (callFunc 89 us).run Tryz.prog w = .ok (.enter 89 us) w := fun us w => by kernel_rfl

set_option maxRecDepth 100000 in
theorem l5Coroot_w {W : World} {own : List Asn} {cr : Int} {vcd : Value} {cd : List Int} {vy : Value} {y : List Int}  (scd : IsS vcd) (ecd : Ent own fun w => Ints w vcd cd)   (sy : IsS vy) (ey : Ent own fun w => Ints w vy y)  (hty : (tyS cr cd).isSome = true) (hy : (y.length : Int) = cr) (hin : 2 ≤ inF cr cd y y ∧ inF cr cd y y ≤ 2000000000) : Spec Tryz.prog 59 [.agg #[.int .i64 (cr), vcd], vy] W own (fun v ow => ∃ (r0 : Value), v = r0 ∧ IsS r0 ∧ ow = ints 3 r0 (crF cr cd y) :: own) := by
 have hcr := (tyS_ok hty).1
 have hll := (len_ok hty).2.2
 have hhf := half_ok hin
 have hhe : hfF cr cd y = IntKind.i64.wrap ((inF cr cd y y).tdiv 2) := rfl
 refine Spec.enter Tryz.f59 _ Tryz.func59 rfl (n := 40) rfl rfl ?_
 refine GC.seq (GC.region ?_)
 refine G.step (OG.box (cs := [.int .i64 (cr), vcd]) rfl rfl rfl) rfl rfl rfl ?_
 rintro _ _ ⟨g1, rfl, rfl⟩
 refine G.stepD (OD.assign rfl rfl) rfl rfl rfl ?_
 refine G.nil (GE.then_ (GC.seq (GC.region ?_)))
 refine G.stepD (OD.loadAgg rfl ti28 rfl (i := 0) rfl (us := [.int .i64 (cr), vcd]) rfl rfl) rfl rfl rfl ?_
 refine G.step (OG.call [.agg #[.int .i64 (cr), vcd]] ent93 rfl rfl rfl rfl (by exact (l5Lengths_w scd (Ent.drop 1 ecd) (hty)))) rfl rfl rfl ?_
 rintro v2 _ ⟨_, rfl, hs3, rfl⟩
 refine G.stepD (OD.assign rfl rfl) rfl rfl rfl ?_
 refine G.nil (GE.then_ (GC.seq (GC.region ?_)))
 refine G.stepD (OD.loadAgg rfl ti28 rfl (i := 1) rfl (us := [.int .i64 (cr), vcd]) rfl rfl) rfl rfl rfl ?_
 refine G.stepD (OD.move rfl rfl) rfl rfl rfl ?_
 refine G.stepD (OD.move rfl rfl) rfl rfl rfl ?_
 refine G.step (OG.call [.agg #[.int .i64 (cr), vcd], vy, vy] ent89 rfl rfl rfl rfl (by exact (l5Inner_w scd (Ent.drop 2 ecd) sy (Ent.drop 2 ey) sy (Ent.drop 2 ey) (hty) (hy) (hy)))) rfl rfl rfl ?_
 rintro _ _ ⟨rfl, rfl⟩
 refine G.stepD (OD.quo rfl rfl rfl (by omega)) rfl rfl rfl ?_
 refine G.stepD (OD.assign rfl rfl) rfl rfl rfl ?_
 refine G.nil (GE.then_ (GC.seq (GC.region ?_)))
 refine G.stepD (OD.fieldAddr rfl rfl fa28_0) rfl rfl rfl ?_
 refine G.stepD (OD.load rfl ti3 rfl (i := 1) rfl rfl) rfl rfl rfl ?_
 refine G.step (OG.makeInts rfl et22 rfl rfl (by omega)) rfl rfl rfl ?_
 rintro v4 _ ⟨hs5, rfl⟩
 refine G.stepD (OD.assign rfl rfl) rfl rfl rfl ?_
 refine G.nil (GE.then_ (GC.seq (GC.seq (GC.region ?_))))
 refine G.stepD (OD.assign rfl rfl) rfl rfl rfl ?_
 refine G.nil (GE.then_ (GC.block ?_))
 refine GC.loop (ι := Nat × List Int) (fun ⟨i, ys⟩ => [(1, vy), (2, .pointer (some ⟨g1, 0, none⟩)), (5, v2), (6, .int .i64 (IntKind.i64.wrap ((inF cr cd y y).tdiv 2))), (7, v4), (8, .int .i64 ((i : Int)))]) (fun ⟨i, ys⟩ => ints 3 v4 ys :: ints 3 v2 (lenF cr cd) :: box g1 28 [.int .i64 (cr), vcd] :: own) (fun ⟨i, ys⟩ => (i ≤ y.length) ∧ (ys.length = y.length) ∧ (ys = (List.range i).foldl (fun (o : List Int) (i : Nat) => o.set i (crI cr cd y i)) (List.replicate y.length 0))) (fun ⟨i, ys⟩ => y.length - i) (0, (List.replicate (cr : Int).toNat 0)) (⟨by omega, by simp; omega, by rw [show cr.toNat = y.length by omega]; rfl⟩) ⟨rfl, rfl, rfl, rfl, rfl, rfl, trivial⟩ [] 0 rfl ?_
 rintro ⟨i, ys⟩ ⟨hi, hyl, hys⟩
 refine GC.seq (GC.seq (GC.region ?_))
 refine G.stepD (OD.move rfl rfl) rfl rfl rfl ?_
 refine G.stepD (OD.fieldAddr rfl rfl fa28_0) rfl rfl rfl ?_
 refine G.stepD (OD.load rfl ti3 rfl (i := 2) rfl rfl) rfl rfl rfl ?_
 refine G.stepD (OD.lss rfl rfl rfl) rfl rfl rfl ?_
 refine G.nil (GE.then_ ?_)
 refine GC.cond rfl (fun hc6 => ?_) (fun hc6 => ?_)
 replace hc6 := of_decide_eq_true hc6
 refine GC.skip (GE.then_ (GC.seq (GC.block ?_)))
 refine GC.at [] 0 (env' := [(1, vy), (2, .pointer (some ⟨g1, 0, none⟩)), (5, v2), (6, .int .i64 (IntKind.i64.wrap ((inF cr cd y y).tdiv 2))), (7, v4), (8, .int .i64 ((i : Int)))]) ⟨rfl, rfl, rfl, rfl, rfl, rfl, trivial⟩ rfl ?_
 refine GC.par (its := [⟨25, [], [], [], [], fun _ => v4, fun _ => True, fun _ => []⟩,
     ⟨26, [], [], [], [], fun _ => .int .i64 ((i : Int)), fun _ => True, fun _ => []⟩,
     ⟨27, [], [], [], [], fun _ => vy, fun _ => True, fun _ => []⟩,
     ⟨28, [], [], [], [], fun _ => .int .i64 ((i : Int)), fun _ => True, fun _ => []⟩,
     ⟨29, [(2, 27), (3, 28)], [], [], [], fun _ => elemPtr vy 1 (i), fun _ => True, fun _ => []⟩,
     ⟨30, [(4, 29)], [], [], [], fun _ => .int .i64 (y.getD (i) 0), fun _ => True, fun _ => []⟩,
     ⟨31, [], [], [], [], fun _ => v2, fun _ => True, fun _ => []⟩,
     ⟨32, [], [], [], [], fun _ => .int .i64 ((i : Int)), fun _ => True, fun _ => []⟩,
     ⟨33, [(6, 31), (7, 32)], [], [], [], fun _ => elemPtr v2 1 (i), fun _ => True, fun _ => []⟩,
     ⟨34, [(8, 33)], [], [], [], fun _ => .int .i64 ((lenF cr cd).getD (i) 0), fun _ => True, fun _ => []⟩,
     ⟨35, [(5, 30), (9, 34)], [], [], [], fun _ => .int .i64 (IntKind.i64.wrap ((y.getD (i) 0) * ((lenF cr cd).getD (i) 0))), fun _ => True, fun _ => []⟩,
     ⟨36, [], [], [], [], fun _ => .int .i64 (IntKind.i64.wrap ((inF cr cd y y).tdiv 2)), fun _ => True, fun _ => []⟩,
     ⟨37, [(10, 35), (11, 36)], [], [], [], fun _ => .int .i64 (IntKind.i64.wrap ((IntKind.i64.wrap ((y.getD (i) 0) * ((lenF cr cd).getD (i) 0))).tdiv (IntKind.i64.wrap ((inF cr cd y y).tdiv 2)))), fun _ => True, fun _ => []⟩,
     ⟨38, [(0, 25), (1, 26)], [], [], [], fun _ => elemPtr v4 1 (i), fun _ => True, fun _ => []⟩]) (by kernel_rfl) (by kernel_rfl) (POps.cons ?_ (POps.cons ?_ (POps.cons ?_ (POps.cons ?_ (POps.cons ?_ (POps.cons ?_ (POps.cons ?_ (POps.cons ?_ (POps.cons ?_ (POps.cons ?_ (POps.cons ?_ (POps.cons ?_ (POps.cons ?_ (POps.cons ?_ POps.nil)))))))))))))) ?_
 intro θ R hd
 exact Opp.plain (OG.imp (OD.move rfl rfl) (by rintro _ _ ⟨rfl, rfl⟩; exact ⟨[], rfl, trivial, rfl⟩)) rfl
 intro θ R hd
 exact Opp.plain (OG.imp (OD.move rfl rfl) (by rintro _ _ ⟨rfl, rfl⟩; exact ⟨[], rfl, trivial, rfl⟩)) rfl
 intro θ R hd
 exact Opp.plain (OG.imp (OD.move rfl rfl) (by rintro _ _ ⟨rfl, rfl⟩; exact ⟨[], rfl, trivial, rfl⟩)) rfl
 intro θ R hd
 exact Opp.plain (OG.imp (OD.move rfl rfl) (by rintro _ _ ⟨rfl, rfl⟩; exact ⟨[], rfl, trivial, rfl⟩)) rfl
 intro θ R hd
 obtain ⟨h2d, h3d, _⟩ := hd
 exact Opp.plain (OG.imp (OD.indexAddr rfl et22 rfl (Ent.drop 3 ey.app) rfl (by omega)) (by rintro _ _ ⟨rfl, rfl⟩; exact ⟨[], rfl, trivial, rfl⟩)) rfl
 intro θ R hd
 obtain ⟨h4d, _⟩ := hd
 exact Opp.plain (OG.imp (OD.loadInt rfl ti3 rfl (Ent.drop 3 ey.app) (by omega)) (by rintro _ _ ⟨rfl, rfl⟩; exact ⟨[], rfl, trivial, rfl⟩)) rfl
 intro θ R hd
 exact Opp.plain (OG.imp (OD.move rfl rfl) (by rintro _ _ ⟨rfl, rfl⟩; exact ⟨[], rfl, trivial, rfl⟩)) rfl
 intro θ R hd
 exact Opp.plain (OG.imp (OD.move rfl rfl) (by rintro _ _ ⟨rfl, rfl⟩; exact ⟨[], rfl, trivial, rfl⟩)) rfl
 intro θ R hd
 obtain ⟨h6d, h7d, _⟩ := hd
 exact Opp.plain (OG.imp (OD.indexAddr rfl et22 rfl (Ent.ints (i := 1) rfl) rfl (by omega)) (by rintro _ _ ⟨rfl, rfl⟩; exact ⟨[], rfl, trivial, rfl⟩)) rfl
 intro θ R hd
 obtain ⟨h8d, _⟩ := hd
 exact Opp.plain (OG.imp (OD.loadInt rfl ti3 rfl (Ent.ints (i := 1) rfl) (by omega)) (by rintro _ _ ⟨rfl, rfl⟩; exact ⟨[], rfl, trivial, rfl⟩)) rfl
 intro θ R hd
 obtain ⟨h5d, h9d, _⟩ := hd
 exact Opp.plain (OG.imp (OD.mul rfl rfl rfl) (by rintro _ _ ⟨rfl, rfl⟩; exact ⟨[], rfl, trivial, rfl⟩)) rfl
 intro θ R hd
 exact Opp.plain (OG.imp (OD.move rfl rfl) (by rintro _ _ ⟨rfl, rfl⟩; exact ⟨[], rfl, trivial, rfl⟩)) rfl
 intro θ R hd
 obtain ⟨h10d, h11d, _⟩ := hd
 exact Opp.plain (OG.imp (OD.quo rfl rfl rfl (by omega)) (by rintro _ _ ⟨rfl, rfl⟩; exact ⟨[], rfl, trivial, rfl⟩)) rfl
 intro θ R hd
 obtain ⟨h0d, h1d, _⟩ := hd
 exact Opp.plain (OG.imp (OD.indexAddr rfl et22 rfl (Ent.ints (i := 0) rfl) rfl (by omega)) (by rintro _ _ ⟨rfl, rfl⟩; exact ⟨[], rfl, trivial, rfl⟩)) rfl
 intro θ hall
 obtain ⟨_, _, _, _, _, _, _, _, _, _, _, _, _, _, _⟩ := hall
 refine G.at [] 0 (env' := [(1, vy), (2, .pointer (some ⟨g1, 0, none⟩)), (5, v2), (6, .int .i64 (IntKind.i64.wrap ((inF cr cd y y).tdiv 2))), (7, v4), (8, .int .i64 ((i : Int))), (37, .int .i64 (IntKind.i64.wrap ((IntKind.i64.wrap ((y.getD (i) 0) * ((lenF cr cd).getD (i) 0))).tdiv (IntKind.i64.wrap ((inF cr cd y y).tdiv 2))))), (38, elemPtr v4 1 (i))]) ⟨rfl, rfl, rfl, rfl, rfl, rfl, rfl, rfl, trivial⟩ (own' := ints 3 v4 ys :: ints 3 v2 (lenF cr cd) :: box g1 28 [.int .i64 (cr), vcd] :: own) rfl ?_
 show G _ _ _ [_] _ _ _ _
 refine G.stepD0 (OD.storeInt rfl ti3 rfl rfl (i := 0) rfl (by omega)) rfl rfl ?_
 refine G.nil (GE.blockN (GE.then_ (GC.region ?_)))
 refine G.stepD (OD.move rfl rfl) rfl rfl rfl ?_
 refine G.stepD (OD.addI rfl rfl rfl (by first | omega | (simp only [List.length_set, List.length_replicate]; omega))) rfl rfl rfl ?_
 refine G.stepD (OD.assign rfl rfl) rfl rfl rfl ?_
 refine G.nil ?_
 exact GE.again (i + 1, (ys).set (i) (IntKind.i64.wrap ((IntKind.i64.wrap ((y.getD (i) 0) * ((lenF cr cd).getD (i) 0))).tdiv (IntKind.i64.wrap ((inF cr cd y y).tdiv 2))))) (⟨by omega, by rw [List.length_set]; exact hyl, fold_next hys rfl⟩) (by first | omega | (dsimp only; omega)) ⟨rfl, rfl, rfl, rfl, rfl, rfl, trivial⟩ [] 0 rfl
 replace hc6 := of_decide_eq_false hc6
 refine GC.exit (GE.pass (GE.pass (GE.hit (GE.then_ (GC.seq (GC.region ?_))))))
 refine G.stepD (OD.move rfl rfl) rfl rfl rfl ?_
 refine G.stepD (OD.assign rfl rfl) rfl rfl rfl ?_
 refine G.nil (GE.then_ (GC.ret ?_))
 exact GE.body [0] 2 (res1 rfl rfl) rfl (⟨v4, rfl, hs5, congrArg (fun (l0 : List Int) => ints 3 v4 l0 :: own) ((by rw [hys, show i = y.length by omega]; exact cr_fold : ys = crF cr cd y))⟩)

set_option maxRecDepth 100000 in
theorem coroot_w {W : World} {own : List Asn} {cr : Int} {vcd : Value} {cd : List Int} {vy : Value} {y : List Int}  (scd : IsS vcd) (ecd : Ent own fun w => Ints w vcd cd)   (sy : IsS vy) (ey : Ent own fun w => Ints w vy y)  (hty : (tyS cr cd).isSome = true) (hy : (y.length : Int) = cr) (hin : 2 ≤ inF cr cd y y ∧ inF cr cd y y ≤ 2000000000) : Spec Tryz.prog 60 [.agg #[.int .i64 (cr), vcd], vy] W own (fun v ow => ∃ (r0 : Value), v = r0 ∧ IsS r0 ∧ ow = ints 3 r0 (crF cr cd y) :: own) := by
 have hcr := (tyS_ok hty).1
 have hll := (len_ok hty).2.2
 have hhf := half_ok hin
 have hhe : hfF cr cd y = IntKind.i64.wrap ((inF cr cd y y).tdiv 2) := rfl
 refine Spec.enter Tryz.f60 _ Tryz.func60 rfl (n := 38) rfl rfl ?_
 refine GC.seq (GC.region ?_)
 refine G.step (OG.box (cs := [.int .i64 (cr), vcd]) rfl rfl rfl) rfl rfl rfl ?_
 rintro _ _ ⟨g1, rfl, rfl⟩
 refine G.stepD (OD.assign rfl rfl) rfl rfl rfl ?_
 refine G.nil (GE.then_ (GC.seq (GC.region ?_)))
 refine G.stepD (OD.loadAgg rfl ti28 rfl (i := 0) rfl (us := [.int .i64 (cr), vcd]) rfl rfl) rfl rfl rfl ?_
 refine G.step (OG.call [.agg #[.int .i64 (cr), vcd]] ent92 rfl rfl rfl rfl (by exact (lengths_w scd (Ent.drop 1 ecd) (hty)))) rfl rfl rfl ?_
 rintro v2 _ ⟨_, rfl, hs3, rfl⟩
 refine G.stepD (OD.assign rfl rfl) rfl rfl rfl ?_
 refine G.nil (GE.then_ (GC.seq (GC.region ?_)))
 refine G.stepD (OD.loadAgg rfl ti28 rfl (i := 1) rfl (us := [.int .i64 (cr), vcd]) rfl rfl) rfl rfl rfl ?_
 refine G.stepD (OD.move rfl rfl) rfl rfl rfl ?_
 refine G.stepD (OD.move rfl rfl) rfl rfl rfl ?_
 refine G.step (OG.call [.agg #[.int .i64 (cr), vcd], vy, vy] ent58 rfl rfl rfl rfl (by exact (inner_w scd (Ent.drop 2 ecd) sy (Ent.drop 2 ey) sy (Ent.drop 2 ey) (hty) (hy) (hy)))) rfl rfl rfl ?_
 rintro _ _ ⟨rfl, rfl⟩
 refine G.stepD (OD.quo rfl rfl rfl (by omega)) rfl rfl rfl ?_
 refine G.stepD (OD.assign rfl rfl) rfl rfl rfl ?_
 refine G.nil (GE.then_ (GC.seq (GC.region ?_)))
 refine G.step (OG.buildInts (xs := []) (is := []) rfl et22 rfl rfl rfl rfl rfl) rfl rfl rfl ?_
 rintro v4 _ ⟨hs5, rfl⟩
 refine G.stepD (OD.assign rfl rfl) rfl rfl rfl ?_
 refine G.nil (GE.then_ (GC.seq (GC.seq (GC.region ?_))))
 refine G.stepD (OD.move rfl rfl) rfl rfl rfl ?_
 refine G.stepD (OD.len rfl rfl et22 rfl (Ent.drop 3 ey)) rfl rfl rfl ?_
 refine G.stepD (OD.move rfl rfl) rfl rfl rfl ?_
 refine G.nil (GE.then_ (GC.block ?_))
 refine GC.loop (ι := Nat × List Int × Value) (fun ⟨i, ys, v⟩ => [(5, v2), (6, .int .i64 (IntKind.i64.wrap ((inF cr cd y y).tdiv 2))), (18, vy), (19, .int .i64 ((y.length : Nat))), (7, v), (20, .int .i64 ((i : Int)))]) (fun ⟨i, ys, v⟩ => ints 3 v ys :: ints 3 v2 (lenF cr cd) :: box g1 28 [.int .i64 (cr), vcd] :: own) (fun ⟨i, ys, v⟩ => (i ≤ y.length) ∧ (IsS v) ∧ (ys = (List.range i).map (crI cr cd y))) (fun ⟨i, ys, v⟩ => y.length - i) (0, [], v4) (⟨by omega, hs5, rfl⟩) ⟨rfl, rfl, rfl, rfl, rfl, rfl, trivial⟩ [] 0 rfl ?_
 rintro ⟨i, ys, v⟩ ⟨hi, hv, hys⟩
 have hyl : ys.length = i := by rw [hys]; simp
 refine GC.seq (GC.region ?_)
 refine G.stepD (OD.lss rfl rfl rfl) rfl rfl rfl ?_
 refine G.nil (GE.then_ (GC.seq ?_))
 refine GC.cond rfl (fun hc6 => ?_) (fun hc6 => ?_)
 replace hc6 := of_decide_eq_true hc6
 refine GC.skip (GE.then_ (GC.seq (GC.block (GC.seq (GC.region ?_)))))
 refine G.stepD (OD.move rfl rfl) rfl rfl rfl ?_
 refine G.stepD (OD.indexAddr rfl et22 rfl (Ent.drop 3 ey) rfl (by omega)) rfl rfl rfl ?_
 refine G.stepD (OD.loadInt rfl ti3 rfl (Ent.drop 3 ey) (by omega)) rfl rfl rfl ?_
 refine G.stepD (OD.assign rfl rfl) rfl rfl rfl ?_
 refine G.stepD (OD.assign rfl rfl) rfl rfl rfl ?_
 refine G.nil (GE.then_ (GC.region ?_))
 refine G.stepD (OD.move rfl rfl) rfl rfl rfl ?_
 refine G.stepD (OD.move rfl rfl) rfl rfl rfl ?_
 refine G.stepD (OD.move rfl rfl) rfl rfl rfl ?_
 refine G.stepD (OD.move rfl rfl) rfl rfl rfl ?_
 refine G.stepD (OD.indexAddr rfl et22 rfl (Ent.ints (i := 1) rfl) rfl (by omega)) rfl rfl rfl ?_
 refine G.stepD (OD.loadInt rfl ti3 rfl (Ent.ints (i := 1) rfl) (by omega)) rfl rfl rfl ?_
 refine G.stepD (OD.mul rfl rfl rfl) rfl rfl rfl ?_
 refine G.stepD (OD.move rfl rfl) rfl rfl rfl ?_
 refine G.stepD (OD.quo rfl rfl rfl (by omega)) rfl rfl rfl ?_
 refine G.step (OG.buildInts (xs := [.tmp 33]) (is := [IntKind.i64.wrap ((IntKind.i64.wrap ((y.getD (i) 0) * ((lenF cr cd).getD (i) 0))).tdiv (IntKind.i64.wrap ((inF cr cd y y).tdiv 2)))]) rfl et22 rfl rfl rfl rfl rfl) rfl rfl rfl ?_
 rintro v7 _ ⟨hs8, rfl⟩
 refine G.step (OG.appendInts 1 rfl rfl et22 rfl rfl rfl (Ent.ints (i := 0) rfl) (by first | omega | (simp; omega))) rfl rfl rfl ?_
 rintro v9 _ ⟨hs10, rfl⟩
 refine G.stepD (OD.assign rfl rfl) rfl rfl rfl ?_
 refine G.nil (GE.blockN (GE.then_ (GC.region ?_)))
 refine G.stepD (OD.addI rfl rfl rfl (by omega)) rfl rfl rfl ?_
 refine G.stepD (OD.move rfl rfl) rfl rfl rfl ?_
 refine G.nil ?_
 exact GE.again (i + 1, ys ++ [IntKind.i64.wrap ((IntKind.i64.wrap ((y.getD (i) 0) * ((lenF cr cd).getD (i) 0))).tdiv (IntKind.i64.wrap ((inF cr cd y y).tdiv 2)))], v9) (⟨by omega, hs10, by rw [hys]; exact cr_step⟩) (by first | omega | (dsimp only; omega)) ⟨rfl, rfl, rfl, rfl, rfl, rfl, trivial⟩ [1, 1, 1] 1 rfl
 replace hc6 := of_decide_eq_false hc6
 refine GC.exit (GE.pass (GE.pass (GE.hit (GE.then_ (GC.seq (GC.region ?_))))))
 refine G.stepD (OD.move rfl rfl) rfl rfl rfl ?_
 refine G.stepD (OD.assign rfl rfl) rfl rfl rfl ?_
 refine G.nil (GE.then_ (GC.ret ?_))
 exact GE.body [0] 2 (res1 rfl rfl) rfl (⟨v, rfl, hv, congrArg (fun (l0 : List Int) => ints 3 v l0 :: own) ((by rw [hys, show i = y.length by omega]; rfl : ys = crF cr cd y))⟩)

set_option maxRecDepth 100000 in
theorem specCorootOf_w {W : World} {own : List Asn} {cr : Int} {vcd : Value} {cd : List Int} {vy : Value} {y : List Int}  (scd : IsS vcd) (ecd : Ent own fun w => Ints w vcd cd)   (sy : IsS vy) (ey : Ent own fun w => Ints w vy y)  (hl0 : cd.length ≤ 1073741824) (hly : y.length ≤ 1073741824) (h64y : All64 y) : Spec Tryz.prog 31 [.agg #[.int .i64 (cr), vcd], vy] W own (fun v ow => ∃ (r0 : Value), v = r0 ∧ IsS r0 ∧ ow = ints 3 r0 (crOf cr cd y) :: own) := by
 refine Spec.enter Tryz.f31 _ Tryz.func31 rfl (n := 12) rfl rfl ?_
 refine GC.seq (GC.region ?_)
 refine G.step (OG.box (cs := [.int .i64 (cr), vcd]) rfl rfl rfl) rfl rfl rfl ?_
 rintro _ _ ⟨g1, rfl, rfl⟩
 refine G.stepD (OD.assign rfl rfl) rfl rfl rfl ?_
 refine G.nil (GE.then_ (GC.seq (GC.seq (GC.region ?_))))
 refine G.stepD (OD.loadAgg rfl ti28 rfl (i := 0) rfl (us := [.int .i64 (cr), vcd]) rfl rfl) rfl rfl rfl ?_
 refine G.stepD (OD.move rfl rfl) rfl rfl rfl ?_
 refine G.step (OG.call [.agg #[.int .i64 (cr), vcd], vy] ent20 rfl rfl rfl rfl (by exact (specIsRoot_w scd (Ent.drop 1 ecd) sy (Ent.drop 1 ey) (hl0) (by omega) (h64y)))) rfl rfl rfl ?_
 rintro _ _ ⟨rfl, rfl⟩
 refine G.stepD (OD.not rfl rfl) rfl rfl rfl ?_
 refine G.nil (GE.then_ ?_)
 refine GC.cond rfl (fun hc2 => ?_) (fun hc2 => ?_)
 replace hc2 := eq_false_of_not hc2
 refine GC.seq (GC.region ?_)
 refine G.stepD (OD.assign rfl rfl) rfl rfl rfl ?_
 refine G.nil (GE.then_ (GC.ret (GE.passR ?_)))
 refine GE.nilInts 3 ?_
 exact GE.body [0] 1 (res1 rfl rfl) rfl (⟨(.slice none 0 0), rfl, IsS.nil, congrArg (fun (l0 : List Int) => ints 3 (.slice none 0 0) l0 :: own) ((by rw [crOf, hc2] <;> rfl : [] = crOf cr cd y))⟩)
 replace hc2 := eq_true_of_not hc2
 have h2y := rt_two (isRt_wt h64y hc2).1 (isRt_wt h64y hc2).2.1 (isRt_wt h64y hc2).2.2
 have hby := inF_bd (isRt_wt h64y hc2).1 (isRt_wt h64y hc2).2.1 (isRt_wt h64y hc2).2.1
 have hyl := wtOk_len (isRt_wt h64y hc2).2.1
 refine GC.skip (GE.then_ (GC.seq (GC.region ?_)))
 refine G.stepD (OD.loadAgg rfl ti28 rfl (i := 0) rfl (us := [.int .i64 (cr), vcd]) rfl rfl) rfl rfl rfl ?_
 refine G.stepD (OD.move rfl rfl) rfl rfl rfl ?_
 refine G.step (OG.call [.agg #[.int .i64 (cr), vcd], vy] ent59 rfl rfl rfl rfl (by exact (l5Coroot_w scd (Ent.drop 1 ecd) sy (Ent.drop 1 ey) ((isRt_wt h64y hc2).1) ((wtOk_len (isRt_wt h64y hc2).2.1)) (⟨h2y, by omega⟩)))) rfl rfl rfl ?_
 rintro v3 _ ⟨_, rfl, hs4, rfl⟩
 refine G.stepD (OD.assign rfl rfl) rfl rfl rfl ?_
 refine G.nil (GE.then_ (GC.ret ?_))
 exact GE.body [0] 1 (res1 rfl rfl) rfl (⟨v3, rfl, hs4, congrArg (fun (l0 : List Int) => ints 3 v3 l0 :: own) ((by rw [crOf, hc2] <;> rfl : crF cr cd y = crOf cr cd y))⟩)

set_option maxRecDepth 100000 in
theorem corootOf_w {W : World} {own : List Asn} {cr : Int} {vcd : Value} {cd : List Int} {vy : Value} {y : List Int}  (scd : IsS vcd) (ecd : Ent own fun w => Ints w vcd cd)   (sy : IsS vy) (ey : Ent own fun w => Ints w vy y)  (hl0 : cd.length ≤ 1073741824) (hly : y.length ≤ 1073741824) (h64y : All64 y) (hg : Ent own fun w => ∃ m, w.cell? ⟨Tryz.l146_ren.g 1, 0, none⟩ = some (.int .i64 m)) (htab : Ent own Pow10) : Spec Tryz.prog 32 [.agg #[.int .i64 (cr), vcd], vy] W own (fun v ow => ∃ (r0 : Value), v = r0 ∧ IsS r0 ∧ ow = ints 3 r0 (crOf cr cd y) :: own) := by
 refine Spec.enter Tryz.f32 _ Tryz.func32 rfl (n := 12) rfl rfl ?_
 refine GC.seq (GC.region ?_)
 refine G.step (OG.box (cs := [.int .i64 (cr), vcd]) rfl rfl rfl) rfl rfl rfl ?_
 rintro _ _ ⟨g1, rfl, rfl⟩
 refine G.stepD (OD.assign rfl rfl) rfl rfl rfl ?_
 refine G.nil (GE.then_ (GC.seq (GC.seq (GC.region ?_))))
 refine G.stepD (OD.loadAgg rfl ti28 rfl (i := 0) rfl (us := [.int .i64 (cr), vcd]) rfl rfl) rfl rfl rfl ?_
 refine G.stepD (OD.move rfl rfl) rfl rfl rfl ?_
 refine G.step (OG.call [.agg #[.int .i64 (cr), vcd], vy] ent22 rfl rfl rfl rfl (by exact (isRoot_w scd (Ent.drop 1 ecd) sy (Ent.drop 1 ey) (hl0) (by omega) (h64y) ((Ent.drop 1 hg)) ((Ent.drop 1 htab))))) rfl rfl rfl ?_
 rintro _ _ ⟨rfl, rfl⟩
 refine G.stepD (OD.not rfl rfl) rfl rfl rfl ?_
 refine G.nil (GE.then_ ?_)
 refine GC.cond rfl (fun hc2 => ?_) (fun hc2 => ?_)
 replace hc2 := eq_false_of_not hc2
 refine GC.seq (GC.region ?_)
 refine G.stepD (OD.assign rfl rfl) rfl rfl rfl ?_
 refine G.nil (GE.then_ (GC.ret (GE.passR ?_)))
 refine GE.nilInts 3 ?_
 exact GE.body [0] 1 (res1 rfl rfl) rfl (⟨(.slice none 0 0), rfl, IsS.nil, congrArg (fun (l0 : List Int) => ints 3 (.slice none 0 0) l0 :: own) ((by rw [crOf, hc2] <;> rfl : [] = crOf cr cd y))⟩)
 replace hc2 := eq_true_of_not hc2
 have h2y := rt_two (isRt_wt h64y hc2).1 (isRt_wt h64y hc2).2.1 (isRt_wt h64y hc2).2.2
 have hby := inF_bd (isRt_wt h64y hc2).1 (isRt_wt h64y hc2).2.1 (isRt_wt h64y hc2).2.1
 have hyl := wtOk_len (isRt_wt h64y hc2).2.1
 refine GC.skip (GE.then_ (GC.seq (GC.region ?_)))
 refine G.stepD (OD.loadAgg rfl ti28 rfl (i := 0) rfl (us := [.int .i64 (cr), vcd]) rfl rfl) rfl rfl rfl ?_
 refine G.stepD (OD.move rfl rfl) rfl rfl rfl ?_
 refine G.step (OG.call [.agg #[.int .i64 (cr), vcd], vy] ent60 rfl rfl rfl rfl (by exact (coroot_w scd (Ent.drop 1 ecd) sy (Ent.drop 1 ey) ((isRt_wt h64y hc2).1) ((wtOk_len (isRt_wt h64y hc2).2.1)) (⟨h2y, by omega⟩)))) rfl rfl rfl ?_
 rintro v3 _ ⟨_, rfl, hs4, rfl⟩
 refine G.stepD (OD.assign rfl rfl) rfl rfl rfl ?_
 refine G.nil (GE.then_ (GC.ret ?_))
 exact GE.body [0] 1 (res1 rfl rfl) rfl (⟨v3, rfl, hs4, congrArg (fun (l0 : List Int) => ints 3 v3 l0 :: own) ((by rw [crOf, hc2] <;> rfl : crF cr cd y = crOf cr cd y))⟩)

set_option maxHeartbeats 4000000 in
set_option maxRecDepth 100000 in
theorem lawCorootOf {W : World} {own : List Asn} {cr : Int} {vcd : Value} {cd : List Int} {vy : Value} {y : List Int}  (scd : IsS vcd) (ecd : Ent own fun w => Ints w vcd cd)   (sy : IsS vy) (ey : Ent own fun w => Ints w vy y)  (hcd : cd.length ≤ 9223372036854775807) (hy : y.length ≤ 9223372036854775807) (h64y : All64 y) (hg : Ent own fun w => ∃ m, w.cell? ⟨Tryz.l146_ren.g 1, 0, none⟩ = some (.int .i64 m)) (htab : Ent own Pow10) : Spec Tryz.prog 9 [.agg #[.int .i64 (cr), vcd], vy] W own (fun v ow => v = .bool (true) ∧ ow = own) := by
 have hrl := crOf_len cr cd y
 refine Spec.enter Tryz.f9 _ Tryz.func9 rfl (n := 90) rfl rfl ?_
 refine GC.seq (GC.region ?_)
 refine G.step (OG.box (cs := [.int .i64 (cr), vcd]) rfl rfl rfl) rfl rfl rfl ?_
 rintro _ _ ⟨g1, rfl, rfl⟩
 refine G.stepD (OD.assign rfl rfl) rfl rfl rfl ?_
 refine G.nil (GE.then_ (GC.seq (GC.seq (GC.region ?_))))
 refine G.stepD (OD.move rfl rfl) rfl rfl rfl ?_
 refine G.stepD (OD.len rfl rfl et22 rfl (Ent.drop 1 ey)) rfl rfl rfl ?_
 refine G.stepD (OD.gtr rfl rfl rfl) rfl rfl rfl ?_
 refine G.nil (GE.then_ ?_)
 refine GC.cond rfl (fun hc2 => ?_) (fun hc2 => ?_)
 replace hc2 := of_decide_eq_true hc2
 refine GC.seq (GC.region ?_)
 refine G.stepD (OD.assign rfl rfl) rfl rfl rfl ?_
 refine G.nil (GE.then_ (GC.ret (GE.passR ?_)))
 exact GE.body [] 1 (res1 rfl rfl) rfl (⟨rfl, rfl⟩)
 replace hc2 := of_decide_eq_false hc2
 refine GC.skip (GE.then_ (GC.seq (GC.region ?_)))
 refine G.stepD (OD.assign rfl rfl) rfl rfl rfl ?_
 refine G.nil (GE.then_ (GC.seq (GC.region ?_)))
 refine G.stepD (OD.loadAgg rfl ti24 rfl (i := 0) rfl (us := [.int .i64 (cr), vcd]) rfl rfl) rfl rfl rfl ?_
 refine G.stepD (OD.move rfl rfl) rfl rfl rfl ?_
 refine G.step (OG.call [.agg #[.int .i64 (cr), vcd], .int .i64 (1048576)] ent11 rfl rfl rfl rfl (by exact (szCartan_s scd (Ent.drop 1 ecd) (by omega) (by omega)))) rfl rfl rfl ?_
 rintro _ _ ⟨rfl, rfl⟩
 refine G.stepD (OD.assign rfl rfl) rfl rfl rfl ?_
 refine G.nil (GE.then_ (GC.seq (GC.seq (GC.region ?_))))
 refine G.stepD (OD.move rfl rfl) rfl rfl rfl ?_
 refine G.stepD (OD.lss rfl rfl rfl) rfl rfl rfl ?_
 refine G.nil (GE.then_ ?_)
 refine GC.cond rfl (fun hc3 => ?_) (fun hc3 => ?_)
 replace hc3 := of_decide_eq_true hc3
 refine GC.seq (GC.region ?_)
 refine G.stepD (OD.assign rfl rfl) rfl rfl rfl ?_
 refine G.nil (GE.then_ (GC.ret (GE.passR ?_)))
 exact GE.body [] 1 (res1 rfl rfl) rfl (⟨rfl, rfl⟩)
 replace hc3 := of_decide_eq_false hc3
 have hc3z := szG_ok hc3
 refine GC.skip (GE.then_ (GC.seq (GC.region ?_)))
 refine G.stepD (OD.loadAgg rfl ti24 rfl (i := 0) rfl (us := [.int .i64 (cr), vcd]) rfl rfl) rfl rfl rfl ?_
 refine G.step (OG.call [.agg #[.int .i64 (cr), vcd]] ent13 rfl rfl rfl rfl (by exact (toCartan_s scd (Ent.drop 1 ecd) (by omega)))) rfl rfl rfl ?_
 rintro _ _ ⟨v4, rfl, hs5, rfl⟩
 refine G.stepD (OD.move rfl rfl) rfl rfl rfl ?_
 refine G.step (OG.call [vy] ent21 rfl rfl rfl rfl (by exact (toIntS_s sy (Ent.drop 2 ey) (by omega)))) rfl rfl rfl ?_
 rintro v6 _ ⟨_, rfl, hs7, rfl⟩
 refine G.step (OG.call [.agg #[.int .i64 (cr), v4], v6] ent31 rfl rfl rfl rfl (by exact (specCorootOf_w hs5 (Ent.ints (i := 1) rfl) hs7 (Ent.ints (i := 0) rfl) (by omega) (by omega) (h64y)))) rfl rfl rfl ?_
 rintro v8 _ ⟨_, rfl, hs9, rfl⟩
 refine G.stepD (OD.assign rfl rfl) rfl rfl rfl ?_
 refine G.nil (GE.then_ (GC.seq (GC.region ?_)))
 refine G.stepD (OD.loadAgg rfl ti24 rfl (i := 3) rfl (us := [.int .i64 (cr), vcd]) rfl rfl) rfl rfl rfl ?_
 refine G.step (OG.call [.agg #[.int .i64 (cr), vcd]] ent13 rfl rfl rfl rfl (by exact (toCartan_s scd (Ent.drop 4 ecd) (by omega)))) rfl rfl rfl ?_
 rintro _ _ ⟨v10, rfl, hs11, rfl⟩
 refine G.step (OG.alloc rfl ti28 (zs := [.int .i64 (0), .slice none 0 0]) rfl) rfl rfl rfl ?_
 rintro _ _ ⟨g12, rfl, rfl⟩
 refine G.stepD0 (OD.store rfl ti28 rfl rfl (us := [.int .i64 (cr), v10]) rfl rfl (allC rfl (allC (IsS.one hs11) rfl)) (i := 0) rfl rfl) rfl rfl ?_
 refine G.nil (GE.then_ (GC.seq (GC.region ?_)))
 refine G.stepD (OD.move rfl rfl) rfl rfl rfl ?_
 refine G.step (OG.call [vy] ent21 rfl rfl rfl rfl (by exact (toIntS_s sy (Ent.drop 6 ey) (by omega)))) rfl rfl rfl ?_
 rintro v13 _ ⟨_, rfl, hs14, rfl⟩
 refine G.stepD (OD.assign rfl rfl) rfl rfl rfl ?_
 refine G.nil (GE.then_ (GC.seq (GC.region ?_)))
 refine G.stepD (OD.loadAgg rfl ti28 rfl (i := 1) rfl (us := [.int .i64 (cr), v10]) rfl rfl) rfl rfl rfl ?_
 refine G.stepD (OD.move rfl rfl) rfl rfl rfl ?_
 refine G.step (OG.call [.agg #[.int .i64 (cr), v10], v13] ent32 rfl rfl rfl rfl (by exact (corootOf_w hs11 (Ent.ints (i := 2) rfl) hs14 (Ent.ints (i := 0) rfl) (by omega) (by omega) (h64y) ((Ent.drop 7 hg)) ((Ent.drop 7 htab))))) rfl rfl rfl ?_
 rintro v15 _ ⟨_, rfl, hs16, rfl⟩
 refine G.stepD (OD.assign rfl rfl) rfl rfl rfl ?_
 refine G.nil (GE.then_ (GC.seq (GC.seq (GC.region ?_))))
 refine G.stepD (OD.move rfl rfl) rfl rfl rfl ?_
 refine G.stepD (OD.move rfl rfl) rfl rfl rfl ?_
 refine G.step (OG.call [v15, v8] ent15 rfl rfl rfl rfl (by exact (eqIntS_same hs16 (Ent.ints (i := 0) rfl) hs9 (Ent.ints (i := 4) rfl) (by omega)))) rfl rfl rfl ?_
 rintro _ _ ⟨rfl, rfl⟩
 refine G.stepD (OD.not rfl rfl) rfl rfl rfl ?_
 refine G.nil (GE.then_ (GC.condF rfl (GC.skip (GE.then_ (GC.seq (GC.seq ?_))))))
 refine GC.at [] 0 (env' := [(1, vy), (2, .pointer (some ⟨g1, 0, none⟩)), (6, v8), (7, .pointer (some ⟨g12, 0, none⟩)), (8, v13), (9, v15)]) ⟨rfl, rfl, rfl, rfl, rfl, rfl, trivial⟩ rfl ?_
 refine GC.par (its := [⟨38, [], [], [], [], fun _ => .agg #[.int .i64 (cr), v10], fun _ => True, fun _ => []⟩,
     ⟨39, [], [], [], [], fun _ => .agg #[.int .i64 (cr), vcd], fun _ => True, fun _ => []⟩,
     ⟨40, [(1, 39)], [], [], [2], fun ds => .agg #[.int .i64 (cr), ((ds.getD 0 []).getD 0 undef)], fun ds => IsS ((ds.getD 0 []).getD 0 undef), fun ds => [ints 3 ((ds.getD 0 []).getD 0 undef) cd]⟩,
     ⟨41, [(0, 38), (2, 40)], [2], [], [2], fun _ => .bool true, fun _ => True, fun _ => []⟩,
     ⟨42, [(3, 41)], [2], [], [2], fun _ => .bool false, fun _ => True, fun _ => []⟩]) (by kernel_rfl) (by kernel_rfl) (POps.cons ?_ (POps.cons ?_ (POps.cons ?_ (POps.cons ?_ (POps.cons ?_ POps.nil))))) ?_
 intro θ R hd
 exact Opp.plain (OG.imp (OD.loadAgg rfl ti28 rfl (i := 2) rfl (us := [.int .i64 (cr), v10]) rfl rfl) (by rintro _ _ ⟨rfl, rfl⟩; exact ⟨[], rfl, trivial, rfl⟩)) rfl
 intro θ R hd
 exact Opp.plain (OG.imp (OD.loadAgg rfl ti24 rfl (i := 7) rfl (us := [.int .i64 (cr), vcd]) rfl rfl) (by rintro _ _ ⟨rfl, rfl⟩; exact ⟨[], rfl, trivial, rfl⟩)) rfl
 intro θ R hd
 obtain ⟨h1d, _⟩ := hd
 exact Opp.plain (OG.imp (OG.call [.agg #[.int .i64 (cr), vcd]] ent13 rfl rfl rfl rfl (by exact (toCartan_s scd (Ent.drop 8 ecd.app) (by omega)))) (by rintro _ _ ⟨v17, rfl, hs18, rfl⟩; exact ⟨[v17], rfl, hs18, rfl⟩)) rfl
 intro θ R hd
 obtain ⟨h0d, h2d, _⟩ := hd
 exact Opp.plain (OG.imp (OG.call [.agg #[.int .i64 (cr), v10], .agg #[.int .i64 (cr), ((θ 2).getD 0 undef)]] ent16 rfl rfl rfl rfl (by exact (eqCartan_same hs11 (Ent.ints (i := 4) rfl) h2d (Ent.ints (i := 0) rfl) (by omega)))) (by rintro _ _ ⟨rfl, rfl⟩; exact ⟨[], rfl, trivial, rfl⟩)) rfl
 intro θ R hd
 obtain ⟨h3d, _⟩ := hd
 exact Opp.plain (OG.imp (OD.not rfl rfl) (by rintro _ _ ⟨rfl, rfl⟩; exact ⟨[], rfl, trivial, rfl⟩)) rfl
 intro θ hall
 obtain ⟨_, _, h2a, _, _, _⟩ := hall
 refine G.at [] 0 (env' := [(1, vy), (2, .pointer (some ⟨g1, 0, none⟩)), (6, v8), (7, .pointer (some ⟨g12, 0, none⟩)), (8, v13), (9, v15), (42, .bool false)]) ⟨rfl, rfl, rfl, rfl, rfl, rfl, rfl, trivial⟩ (own' := ints 3 ((θ 2).getD 0 undef) cd :: ints 3 v15 (crOf cr cd y) :: ints 3 v13 y :: box g12 28 [.int .i64 (cr), v10] :: ints 3 v10 cd :: ints 3 v8 (crOf cr cd y) :: ints 3 v6 y :: ints 3 v4 cd :: box g1 24 [.int .i64 (cr), vcd] :: own) rfl ?_
 have hs19 : IsS ((θ 2).getD 0 undef) := h2a
 clear h2a
 generalize ((θ 2).getD 0 undef) = v20 at *
 show G _ _ _ [] _ _ _ _
 refine G.nil (GE.then_ (GC.condF rfl (GC.skip (GE.then_ (GC.seq (GC.seq (GC.region ?_)))))))
 refine G.stepD (OD.move rfl rfl) rfl rfl rfl ?_
 refine G.stepD (OD.move rfl rfl) rfl rfl rfl ?_
 refine G.step (OG.call [vy] ent21 rfl rfl rfl rfl (by exact (toIntS_s sy (Ent.drop 9 ey) (by omega)))) rfl rfl rfl ?_
 rintro v21 _ ⟨_, rfl, hs22, rfl⟩
 refine G.step (OG.call [v13, v21] ent15 rfl rfl rfl rfl (by exact (eqIntS_same hs14 (Ent.ints (i := 3) rfl) hs22 (Ent.ints (i := 0) rfl) (by omega)))) rfl rfl rfl ?_
 rintro _ _ ⟨rfl, rfl⟩
 refine G.stepD (OD.not rfl rfl) rfl rfl rfl ?_
 refine G.nil (GE.then_ (GC.condF rfl (GC.skip (GE.then_ (GC.seq (GC.region ?_))))))
 refine G.stepD (OD.assign rfl rfl) rfl rfl rfl ?_
 refine G.nil (GE.then_ (GC.seq (GC.region ?_)))
 refine G.stepD (OD.loadAgg rfl ti28 rfl (i := 4) rfl (us := [.int .i64 (cr), v10]) rfl rfl) rfl rfl rfl ?_
 refine G.stepD (OD.move rfl rfl) rfl rfl rfl ?_
 refine G.at [5] 0 (env' := [(1, vy), (2, .pointer (some ⟨g1, 0, none⟩)), (6, v8), (7, .pointer (some ⟨g12, 0, none⟩)), (8, v13), (9, v15), (42, .bool false), (43, v13), (44, vy), (45, v21), (46, .bool true), (47, .bool false), (10, .int .i64 (1)), (48, .agg #[.int .i64 (cr), v10]), (49, .int .i64 (1))]) ⟨rfl, rfl, rfl, rfl, rfl, rfl, rfl, rfl, rfl, rfl, rfl, rfl, rfl, rfl, rfl, trivial⟩ (own' := ints 3 v10 cd :: ints 3 v21 y :: ints 3 v20 cd :: ints 3 v15 (crOf cr cd y) :: ints 3 v13 y :: box g12 28 [.int .i64 (cr), v10] :: ints 3 v8 (crOf cr cd y) :: ints 3 v6 y :: ints 3 v4 cd :: box g1 24 [.int .i64 (cr), vcd] :: own) rfl ?_
 refine G.step (OG.call [.agg #[.int .i64 (cr), v10], .int .i64 (1)] ent17 rfl rfl rfl rfl (by exact (markCartan_s hs11 (by omega) (by omega)))) rfl rfl rfl ?_
 rintro _ _ ⟨rfl, rfl⟩
 refine G.stepD (OD.assign rfl rfl) rfl rfl rfl ?_
 refine G.nil (GE.then_ (GC.seq (GC.region ?_)))
 refine G.stepD (OD.move rfl rfl) rfl rfl rfl ?_
 refine G.stepD (OD.move rfl rfl) rfl rfl rfl ?_
 refine G.at [4] 0 (env' := [(1, vy), (2, .pointer (some ⟨g1, 0, none⟩)), (6, v8), (7, .pointer (some ⟨g12, 0, none⟩)), (8, v13), (9, v15), (42, .bool false), (43, v13), (44, vy), (45, v21), (46, .bool true), (47, .bool false), (48, .agg #[.int .i64 (cr), v10]), (49, .int .i64 (1)), (50, .int .i64 (1 + (cd.length : Nat))), (10, .int .i64 (1 + (cd.length : Nat))), (51, v13), (52, .int .i64 (1 + (cd.length : Nat)))]) ⟨rfl, rfl, rfl, rfl, rfl, rfl, rfl, rfl, rfl, rfl, rfl, rfl, rfl, rfl, rfl, rfl, rfl, rfl, trivial⟩ (own' := ints 3 v13 y :: ints 3 v10 (mkd 1 cd.length) :: ints 3 v21 y :: ints 3 v20 cd :: ints 3 v15 (crOf cr cd y) :: box g12 28 [.int .i64 (cr), v10] :: ints 3 v8 (crOf cr cd y) :: ints 3 v6 y :: ints 3 v4 cd :: box g1 24 [.int .i64 (cr), vcd] :: own) rfl ?_
 refine G.step (OG.call [v13, .int .i64 (1 + (cd.length : Nat))] ent18 rfl rfl rfl rfl (by exact (markIntS_s hs14 (by omega) (by omega)))) rfl rfl rfl ?_
 rintro _ _ ⟨rfl, rfl⟩
 refine G.stepD (OD.assign rfl rfl) rfl rfl rfl ?_
 refine G.nil (GE.then_ (GC.seq (GC.seq (GC.region ?_))))
 refine G.stepD (OD.move rfl rfl) rfl rfl rfl ?_
 refine G.stepD (OD.eqv (OD.lss rfl rfl rfl) (congrArg Value.bool ((decide_eq_false (by omega)) : _ = false))) rfl rfl rfl ?_
 refine G.stepD (OD.move rfl rfl) rfl rfl rfl ?_
 refine G.stepGD (OD.move rfl rfl) rfl rfl rfl rfl rfl ?_
 refine G.stepGD (OD.move rfl rfl) rfl rfl rfl rfl rfl ?_
 refine G.stepG (OG.call [v15, v8] ent15 rfl rfl rfl rfl (by exact (eqIntS_same hs16 (Ent.ints (i := 4) rfl) hs9 (Ent.ints (i := 6) rfl) (by omega)))) rfl rfl rfl rfl rfl ?_
 rintro _ _ ⟨rfl, rfl⟩
 refine G.stepGD (OD.not rfl rfl) rfl rfl rfl rfl rfl ?_
 refine G.stepD (OD.pickF rfl rfl rfl) rfl rfl rfl ?_
 refine G.nil (GE.then_ (GC.condF rfl (GC.skip (GE.then_ (GC.seq (GC.region ?_))))))
 refine G.stepD (OD.assign rfl rfl) rfl rfl rfl ?_
 refine G.nil (GE.then_ (GC.seq (GC.region ?_)))
 refine G.stepD (OD.move rfl rfl) rfl rfl rfl ?_
 refine G.stepD (OD.move rfl rfl) rfl rfl rfl ?_
 refine G.at [4] 0 (env' := [(1, vy), (2, .pointer (some ⟨g1, 0, none⟩)), (6, v8), (7, .pointer (some ⟨g12, 0, none⟩)), (8, v13), (9, v15), (42, .bool false), (43, v13), (44, vy), (45, v21), (46, .bool true), (47, .bool false), (48, .agg #[.int .i64 (cr), v10]), (49, .int .i64 (1)), (50, .int .i64 (1 + (cd.length : Nat))), (51, v13), (52, .int .i64 (1 + (cd.length : Nat))), (53, .int .i64 ((1 + (cd.length : Nat)) + (y.length : Nat))), (10, .int .i64 ((1 + (cd.length : Nat)) + (y.length : Nat))), (54, .int .i64 ((1 + (cd.length : Nat)) + (y.length : Nat))), (55, .bool false), (56, .bool false), (57, v15), (58, v8), (59, .bool true), (60, .bool false), (61, .bool false), (11, .int .i64 (1)), (62, v15), (63, .int .i64 (1))]) ⟨rfl, rfl, rfl, rfl, rfl, rfl, rfl, rfl, rfl, rfl, rfl, rfl, rfl, rfl, rfl, rfl, rfl, rfl, rfl, rfl, rfl, rfl, rfl, rfl, rfl, rfl, rfl, rfl, rfl, rfl, trivial⟩ (own' := ints 3 v15 (crOf cr cd y) :: ints 3 v13 (mkd (1 + (cd.length : Nat)) y.length) :: ints 3 v10 (mkd 1 cd.length) :: ints 3 v21 y :: ints 3 v20 cd :: box g12 28 [.int .i64 (cr), v10] :: ints 3 v8 (crOf cr cd y) :: ints 3 v6 y :: ints 3 v4 cd :: box g1 24 [.int .i64 (cr), vcd] :: own) rfl ?_
 refine G.step (OG.call [v15, .int .i64 (1)] ent18 rfl rfl rfl rfl (by exact (markIntS_s hs16 (by omega) (by omega)))) rfl rfl rfl ?_
 rintro _ _ ⟨rfl, rfl⟩
 refine G.stepD (OD.assign rfl rfl) rfl rfl rfl ?_
 refine G.nil (GE.then_ (GC.seq (GC.region ?_)))
 refine G.stepD (OD.assign rfl rfl) rfl rfl rfl ?_
 refine G.nil (GE.then_ (GC.seq (GC.region ?_)))
 refine G.stepD (OD.move rfl rfl) rfl rfl rfl ?_
 refine G.stepD (OD.move rfl rfl) rfl rfl rfl ?_
 refine G.step (OG.call [v15, .int .i64 (1)] ent19 rfl rfl rfl rfl (by exact (heldIntS_m hs16 (Ent.ints (i := 0) rfl) (by omega) (by omega)))) rfl rfl rfl ?_
 rintro _ _ ⟨rfl, rfl⟩
 refine G.stepD (OD.assign rfl rfl) rfl rfl rfl ?_
 refine G.nil (GE.then_ (GC.seq (GC.seq (GC.region ?_))))
 refine G.stepD (OD.move rfl rfl) rfl rfl rfl ?_
 refine G.stepD (OD.eqv (OD.lss rfl rfl rfl) (congrArg Value.bool ((decide_eq_false (by omega)) : _ = false))) rfl rfl rfl ?_
 refine G.nil (GE.then_ (GC.condF rfl (GC.skip (GE.then_ (GC.seq (GC.seq (GC.region ?_)))))))
 refine G.stepD (OD.move rfl rfl) rfl rfl rfl ?_
 refine G.stepD (OD.move rfl rfl) rfl rfl rfl ?_
 refine G.stepD (OD.eqv (OD.neq rfl rfl rfl) (congrArg Value.bool ((bne_same _) : _ = false))) rfl rfl rfl ?_
 refine G.nil (GE.then_ (GC.condF rfl (GC.skip (GE.then_ (GC.seq (GC.region ?_))))))
 refine G.stepD (OD.loadAgg rfl ti24 rfl (i := 9) rfl (us := [.int .i64 (cr), vcd]) rfl rfl) rfl rfl rfl ?_
 refine G.step (OG.call [.agg #[.int .i64 (cr), vcd]] ent13 rfl rfl rfl rfl (by exact (toCartan_s scd (Ent.drop 10 ecd) (by omega)))) rfl rfl rfl ?_
 rintro _ _ ⟨v23, rfl, hs24, rfl⟩
 refine G.stepD (OD.move rfl rfl) rfl rfl rfl ?_
 refine G.step (OG.call [vy] ent21 rfl rfl rfl rfl (by exact (toIntS_s sy (Ent.drop 11 ey) (by omega)))) rfl rfl rfl ?_
 rintro v25 _ ⟨_, rfl, hs26, rfl⟩
 refine G.step (OG.call [.agg #[.int .i64 (cr), v23], v25] ent32 rfl rfl rfl rfl (by exact (corootOf_w hs24 (Ent.ints (i := 1) rfl) hs26 (Ent.ints (i := 0) rfl) (by omega) (by omega) (h64y) ((Ent.drop 12 hg)) ((Ent.drop 12 htab))))) rfl rfl rfl ?_
 rintro v27 _ ⟨_, rfl, hs28, rfl⟩
 refine G.stepD (OD.assign rfl rfl) rfl rfl rfl ?_
 refine G.nil (GE.then_ (GC.seq (GC.seq (GC.region ?_))))
 refine G.stepD (OD.move rfl rfl) rfl rfl rfl ?_
 refine G.stepD (OD.move rfl rfl) rfl rfl rfl ?_
 refine G.step (OG.call [v27, v8] ent15 rfl rfl rfl rfl (by exact (eqIntS_same hs28 (Ent.ints (i := 0) rfl) hs9 (Ent.ints (i := 9) rfl) (by omega)))) rfl rfl rfl ?_
 rintro _ _ ⟨rfl, rfl⟩
 refine G.stepD (OD.not rfl rfl) rfl rfl rfl ?_
 refine G.nil (GE.then_ (GC.condF rfl (GC.skip (GE.then_ (GC.seq (GC.region ?_))))))
 refine G.stepD (OD.assign rfl rfl) rfl rfl rfl ?_
 refine G.nil (GE.then_ (GC.seq (GC.region ?_)))
 refine G.stepD (OD.move rfl rfl) rfl rfl rfl ?_
 refine G.stepD (OD.move rfl rfl) rfl rfl rfl ?_
 refine G.step (OG.call [v15, .int .i64 (1)] ent19 rfl rfl rfl rfl (by exact (heldIntS_m hs16 (Ent.ints (i := 3) rfl) (by omega) (by omega)))) rfl rfl rfl ?_
 rintro _ _ ⟨rfl, rfl⟩
 refine G.stepD (OD.assign rfl rfl) rfl rfl rfl ?_
 refine G.nil (GE.then_ (GC.seq (GC.seq (GC.region ?_))))
 refine G.stepD (OD.move rfl rfl) rfl rfl rfl ?_
 refine G.stepD (OD.eqv (OD.lss rfl rfl rfl) (congrArg Value.bool ((decide_eq_false (by omega)) : _ = false))) rfl rfl rfl ?_
 refine G.nil (GE.then_ (GC.condF rfl (GC.skip (GE.then_ (GC.seq (GC.seq (GC.region ?_)))))))
 refine G.stepD (OD.move rfl rfl) rfl rfl rfl ?_
 refine G.stepD (OD.move rfl rfl) rfl rfl rfl ?_
 refine G.stepD (OD.eqv (OD.neq rfl rfl rfl) (congrArg Value.bool ((bne_same _) : _ = false))) rfl rfl rfl ?_
 refine G.nil (GE.then_ (GC.condF rfl (GC.skip (GE.then_ (GC.seq (GC.region ?_))))))
 refine G.stepD (OD.assign rfl rfl) rfl rfl rfl ?_
 refine G.nil (GE.then_ (GC.ret ?_))
 exact GE.body [] 13 (res1 rfl rfl) rfl (⟨rfl, rfl⟩)

end Go.Proofs.YteflhcbnajeooaaGreatDoor
