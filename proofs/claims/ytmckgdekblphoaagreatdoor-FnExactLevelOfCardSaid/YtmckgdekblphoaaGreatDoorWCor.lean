/-
  Coroots: contracts by walks.
-/
import Derived.Test.YtmckgdekblphoaaGreatDoorFct
import Derived.Test.YtmckgdekblphoaaGreatDoorWLen
import Derived.Test.YtmckgdekblphoaaGreatDoorNewA
namespace Go.Proofs.YtmckgdekblphoaaGreatDoor
set_option linter.unusedVariables false
set_option linter.unusedSimpArgs false
open Go.RowKit
set_option maxRecDepth 100000 in
theorem l5Coroot_w {W : World} {own : List Asn} {cr : Int} {vcd : Value} {cd : List Int} {vy : Value} {y : List Int}  (scd : IsS vcd) (ecd : Ent own fun w => Ints w vcd cd)   (sy : IsS vy) (ey : Ent own fun w => Ints w vy y)  (hty : (tyS cr cd).isSome = true) (hy : (y.length : Int) = cr) (hin : 2 ≤ inF cr cd y y ∧ inF cr cd y y ≤ 2000000000) : Spec Tryz.prog 118 [.agg #[.int .i64 (cr), vcd], vy] W own (fun v ow => ∃ (r0 : Value), v = r0 ∧ IsS r0 ∧ ow = ints 3 r0 (crF cr cd y) :: own) := by
 have hcr := (tyS_ok hty).1
 have hll := (len_ok hty).2.2
 have hhf := half_ok hin
 have hhe : hfF cr cd y = IntKind.i64.wrap ((inF cr cd y y).tdiv 2) := rfl
 refine Spec.enter Tryz.f118 _ Tryz.func118 rfl (n := 40) rfl rfl ?_
 refine GC.seq (GC.region ?_)
 refine G.step (OG.box (cs := [.int .i64 (cr), vcd]) rfl rfl rfl) rfl rfl rfl ?_
 rintro _ _ ⟨g1, rfl, rfl⟩
 refine G.stepD (OD.assign rfl rfl) rfl rfl rfl ?_
 refine G.nil (GE.then_ (GC.seq (GC.region ?_)))
 refine G.stepD (OD.loadAgg rfl ti28 rfl (i := 0) rfl (us := [.int .i64 (cr), vcd]) rfl rfl) rfl rfl rfl ?_
 refine G.step (OG.call [.agg #[.int .i64 (cr), vcd]] ent142 rfl rfl rfl rfl (by exact (l5Lengths_w scd (Ent.drop 1 ecd) (hty)))) rfl rfl rfl ?_
 rintro v2 _ ⟨_, rfl, hs3, rfl⟩
 refine G.stepD (OD.assign rfl rfl) rfl rfl rfl ?_
 refine G.nil (GE.then_ (GC.seq (GC.region ?_)))
 refine G.stepD (OD.loadAgg rfl ti28 rfl (i := 1) rfl (us := [.int .i64 (cr), vcd]) rfl rfl) rfl rfl rfl ?_
 refine G.stepD (OD.move rfl rfl) rfl rfl rfl ?_
 refine G.stepD (OD.move rfl rfl) rfl rfl rfl ?_
 refine G.step (OG.call [.agg #[.int .i64 (cr), vcd], vy, vy] ent143 rfl rfl rfl rfl (by exact (l5Inner_w scd (Ent.drop 2 ecd) sy (Ent.drop 2 ey) sy (Ent.drop 2 ey) (hty) (hy) (hy)))) rfl rfl rfl ?_
 rintro _ _ ⟨rfl, rfl⟩
 refine G.stepD (OD.quo rfl rfl rfl (by omega)) rfl rfl rfl ?_
 refine G.stepD (OD.assign rfl rfl) rfl rfl rfl ?_
 refine G.nil (GE.then_ (GC.seq (GC.region ?_)))
 refine G.stepD (OD.fieldAddr rfl rfl fa28_0) rfl rfl rfl ?_
 refine G.stepD (OD.load rfl ti3 rfl (i := 1) rfl rfl) rfl rfl rfl ?_
 refine G.step (OG.makeInts rfl et22 rfl rfl (by omega)) rfl rfl rfl ?_
 rintro v4 _ ⟨hs5, rfl⟩
 refine G.stepD (OD.assign rfl rfl) rfl rfl rfl ?_
 refine G.nil (GE.then_ (GC.seq (GC.seq (GC.region ?_))))
 refine G.stepD (OD.assign rfl rfl) rfl rfl rfl ?_
 refine G.nil (GE.then_ (GC.block ?_))
 refine GC.loop (ι := Nat × List Int) (fun ⟨i, ys⟩ => [(1, vy), (2, .pointer (some ⟨g1, 0, none⟩)), (5, v2), (6, .int .i64 (IntKind.i64.wrap ((inF cr cd y y).tdiv 2))), (7, v4), (8, .int .i64 ((i : Int)))]) (fun ⟨i, ys⟩ => ints 3 v4 ys :: ints 3 v2 (lenF cr cd) :: box g1 28 [.int .i64 (cr), vcd] :: own) (fun ⟨i, ys⟩ => (i ≤ y.length) ∧ (ys.length = y.length) ∧ (ys = (List.range i).foldl (fun (o : List Int) (i : Nat) => o.set i (crI cr cd y i)) (List.replicate y.length 0))) (fun ⟨i, ys⟩ => y.length - i) (0, (List.replicate (cr : Int).toNat 0)) (⟨by omega, by simp; omega, by rw [show cr.toNat = y.length by omega]; rfl⟩) ⟨rfl, rfl, rfl, rfl, rfl, rfl, trivial⟩ [] 0 rfl ?_
 rintro ⟨i, ys⟩ ⟨hi, hyl, hys⟩
 refine GC.seq (GC.seq (GC.region ?_))
 refine G.stepD (OD.move rfl rfl) rfl rfl rfl ?_
 refine G.stepD (OD.fieldAddr rfl rfl fa28_0) rfl rfl rfl ?_
 refine G.stepD (OD.load rfl ti3 rfl (i := 2) rfl rfl) rfl rfl rfl ?_
 refine G.stepD (OD.lss rfl rfl rfl) rfl rfl rfl ?_
 refine G.nil (GE.then_ ?_)
 refine GC.cond rfl (fun hc6 => ?_) (fun hc6 => ?_)
 replace hc6 := of_decide_eq_true hc6
 refine GC.skip (GE.then_ (GC.seq (GC.block ?_)))
 refine GC.at [] 0 (env' := [(1, vy), (2, .pointer (some ⟨g1, 0, none⟩)), (5, v2), (6, .int .i64 (IntKind.i64.wrap ((inF cr cd y y).tdiv 2))), (7, v4), (8, .int .i64 ((i : Int)))]) ⟨rfl, rfl, rfl, rfl, rfl, rfl, trivial⟩ rfl ?_
 refine GC.par (its := [⟨25, [], [], [], [], fun _ => v4, fun _ => True, fun _ => []⟩,
     ⟨26, [], [], [], [], fun _ => .int .i64 ((i : Int)), fun _ => True, fun _ => []⟩,
     ⟨27, [], [], [], [], fun _ => vy, fun _ => True, fun _ => []⟩,
     ⟨28, [], [], [], [], fun _ => .int .i64 ((i : Int)), fun _ => True, fun _ => []⟩,
     ⟨29, [(2, 27), (3, 28)], [], [], [], fun _ => elemPtr vy 1 (i), fun _ => True, fun _ => []⟩,
     ⟨30, [(4, 29)], [], [], [], fun _ => .int .i64 (y.getD (i) 0), fun _ => True, fun _ => []⟩,
     ⟨31, [], [], [], [], fun _ => v2, fun _ => True, fun _ => []⟩,
     ⟨32, [], [], [], [], fun _ => .int .i64 ((i : Int)), fun _ => True, fun _ => []⟩,
     ⟨33, [(6, 31), (7, 32)], [], [], [], fun _ => elemPtr v2 1 (i), fun _ => True, fun _ => []⟩,
     ⟨34, [(8, 33)], [], [], [], fun _ => .int .i64 ((lenF cr cd).getD (i) 0), fun _ => True, fun _ => []⟩,
     ⟨35, [(5, 30), (9, 34)], [], [], [], fun _ => .int .i64 (IntKind.i64.wrap ((y.getD (i) 0) * ((lenF cr cd).getD (i) 0))), fun _ => True, fun _ => []⟩,
     ⟨36, [], [], [], [], fun _ => .int .i64 (IntKind.i64.wrap ((inF cr cd y y).tdiv 2)), fun _ => True, fun _ => []⟩,
     ⟨37, [(10, 35), (11, 36)], [], [], [], fun _ => .int .i64 (IntKind.i64.wrap ((IntKind.i64.wrap ((y.getD (i) 0) * ((lenF cr cd).getD (i) 0))).tdiv (IntKind.i64.wrap ((inF cr cd y y).tdiv 2)))), fun _ => True, fun _ => []⟩,
     ⟨38, [(0, 25), (1, 26)], [], [], [], fun _ => elemPtr v4 1 (i), fun _ => True, fun _ => []⟩]) (by kernel_rfl) (by kernel_rfl) (POps.cons ?_ (POps.cons ?_ (POps.cons ?_ (POps.cons ?_ (POps.cons ?_ (POps.cons ?_ (POps.cons ?_ (POps.cons ?_ (POps.cons ?_ (POps.cons ?_ (POps.cons ?_ (POps.cons ?_ (POps.cons ?_ (POps.cons ?_ POps.nil)))))))))))))) ?_
 intro θ R hd
 exact Opp.plain (OG.imp (OD.move rfl rfl) (by rintro _ _ ⟨rfl, rfl⟩; exact ⟨[], rfl, trivial, rfl⟩)) rfl
 intro θ R hd
 exact Opp.plain (OG.imp (OD.move rfl rfl) (by rintro _ _ ⟨rfl, rfl⟩; exact ⟨[], rfl, trivial, rfl⟩)) rfl
 intro θ R hd
 exact Opp.plain (OG.imp (OD.move rfl rfl) (by rintro _ _ ⟨rfl, rfl⟩; exact ⟨[], rfl, trivial, rfl⟩)) rfl
 intro θ R hd
 exact Opp.plain (OG.imp (OD.move rfl rfl) (by rintro _ _ ⟨rfl, rfl⟩; exact ⟨[], rfl, trivial, rfl⟩)) rfl
 intro θ R hd
 obtain ⟨h2d, h3d, _⟩ := hd
 exact Opp.plain (OG.imp (OD.indexAddr rfl et22 rfl (Ent.drop 3 ey.app) rfl (by omega)) (by rintro _ _ ⟨rfl, rfl⟩; exact ⟨[], rfl, trivial, rfl⟩)) rfl
 intro θ R hd
 obtain ⟨h4d, _⟩ := hd
 exact Opp.plain (OG.imp (OD.loadInt rfl ti3 rfl (Ent.drop 3 ey.app) (by omega)) (by rintro _ _ ⟨rfl, rfl⟩; exact ⟨[], rfl, trivial, rfl⟩)) rfl
 intro θ R hd
 exact Opp.plain (OG.imp (OD.move rfl rfl) (by rintro _ _ ⟨rfl, rfl⟩; exact ⟨[], rfl, trivial, rfl⟩)) rfl
 intro θ R hd
 exact Opp.plain (OG.imp (OD.move rfl rfl) (by rintro _ _ ⟨rfl, rfl⟩; exact ⟨[], rfl, trivial, rfl⟩)) rfl
 intro θ R hd
 obtain ⟨h6d, h7d, _⟩ := hd
 exact Opp.plain (OG.imp (OD.indexAddr rfl et22 rfl (Ent.ints (i := 1) rfl) rfl (by omega)) (by rintro _ _ ⟨rfl, rfl⟩; exact ⟨[], rfl, trivial, rfl⟩)) rfl
 intro θ R hd
 obtain ⟨h8d, _⟩ := hd
 exact Opp.plain (OG.imp (OD.loadInt rfl ti3 rfl (Ent.ints (i := 1) rfl) (by omega)) (by rintro _ _ ⟨rfl, rfl⟩; exact ⟨[], rfl, trivial, rfl⟩)) rfl
 intro θ R hd
 obtain ⟨h5d, h9d, _⟩ := hd
 exact Opp.plain (OG.imp (OD.mul rfl rfl rfl) (by rintro _ _ ⟨rfl, rfl⟩; exact ⟨[], rfl, trivial, rfl⟩)) rfl
 intro θ R hd
 exact Opp.plain (OG.imp (OD.move rfl rfl) (by rintro _ _ ⟨rfl, rfl⟩; exact ⟨[], rfl, trivial, rfl⟩)) rfl
 intro θ R hd
 obtain ⟨h10d, h11d, _⟩ := hd
 exact Opp.plain (OG.imp (OD.quo rfl rfl rfl (by omega)) (by rintro _ _ ⟨rfl, rfl⟩; exact ⟨[], rfl, trivial, rfl⟩)) rfl
 intro θ R hd
 obtain ⟨h0d, h1d, _⟩ := hd
 exact Opp.plain (OG.imp (OD.indexAddr rfl et22 rfl (Ent.ints (i := 0) rfl) rfl (by omega)) (by rintro _ _ ⟨rfl, rfl⟩; exact ⟨[], rfl, trivial, rfl⟩)) rfl
 intro θ hall
 obtain ⟨_, _, _, _, _, _, _, _, _, _, _, _, _, _, _⟩ := hall
 refine G.at [] 0 (env' := [(1, vy), (2, .pointer (some ⟨g1, 0, none⟩)), (5, v2), (6, .int .i64 (IntKind.i64.wrap ((inF cr cd y y).tdiv 2))), (7, v4), (8, .int .i64 ((i : Int))), (37, .int .i64 (IntKind.i64.wrap ((IntKind.i64.wrap ((y.getD (i) 0) * ((lenF cr cd).getD (i) 0))).tdiv (IntKind.i64.wrap ((inF cr cd y y).tdiv 2))))), (38, elemPtr v4 1 (i))]) ⟨rfl, rfl, rfl, rfl, rfl, rfl, rfl, rfl, trivial⟩ (own' := ints 3 v4 ys :: ints 3 v2 (lenF cr cd) :: box g1 28 [.int .i64 (cr), vcd] :: own) rfl ?_
 show G _ _ _ [_] _ _ _ _
 refine G.stepD0 (OD.storeInt rfl ti3 rfl rfl (i := 0) rfl (by omega)) rfl rfl ?_
 refine G.nil (GE.blockN (GE.then_ (GC.region ?_)))
 refine G.stepD (OD.move rfl rfl) rfl rfl rfl ?_
 refine G.stepD (OD.addI rfl rfl rfl (by first | omega | (simp only [List.length_set, List.length_replicate]; omega))) rfl rfl rfl ?_
 refine G.stepD (OD.assign rfl rfl) rfl rfl rfl ?_
 refine G.nil ?_
 exact GE.again (i + 1, (ys).set (i) (IntKind.i64.wrap ((IntKind.i64.wrap ((y.getD (i) 0) * ((lenF cr cd).getD (i) 0))).tdiv (IntKind.i64.wrap ((inF cr cd y y).tdiv 2))))) (⟨by omega, by rw [List.length_set]; exact hyl, fold_next hys rfl⟩) (by first | omega | (dsimp only; omega)) ⟨rfl, rfl, rfl, rfl, rfl, rfl, trivial⟩ [] 0 rfl
 replace hc6 := of_decide_eq_false hc6
 refine GC.exit (GE.pass (GE.pass (GE.hit (GE.then_ (GC.seq (GC.region ?_))))))
 refine G.stepD (OD.move rfl rfl) rfl rfl rfl ?_
 refine G.stepD (OD.assign rfl rfl) rfl rfl rfl ?_
 refine G.nil (GE.then_ (GC.ret ?_))
 exact GE.body [0] 2 (res1 rfl rfl) rfl (⟨v4, rfl, hs5, congrArg (fun (l0 : List Int) => ints 3 v4 l0 :: own) ((by rw [hys, show i = y.length by omega]; exact cr_fold : ys = crF cr cd y))⟩)
set_option maxRecDepth 100000 in
theorem coroot_w {W : World} {own : List Asn} {cr : Int} {vcd : Value} {cd : List Int} {vy : Value} {y : List Int}  (scd : IsS vcd) (ecd : Ent own fun w => Ints w vcd cd)   (sy : IsS vy) (ey : Ent own fun w => Ints w vy y)  (hty : (tyS cr cd).isSome = true) (hy : (y.length : Int) = cr) (hin : 2 ≤ inF cr cd y y ∧ inF cr cd y y ≤ 2000000000) : Spec Tryz.prog 89 [.agg #[.int .i64 (cr), vcd], vy] W own (fun v ow => ∃ (r0 : Value), v = r0 ∧ IsS r0 ∧ ow = ints 3 r0 (crF cr cd y) :: own) := by
 have hcr := (tyS_ok hty).1
 have hll := (len_ok hty).2.2
 have hhf := half_ok hin
 have hhe : hfF cr cd y = IntKind.i64.wrap ((inF cr cd y y).tdiv 2) := rfl
 refine Spec.enter Tryz.f89 _ Tryz.func89 rfl (n := 38) rfl rfl ?_
 refine GC.seq (GC.region ?_)
 refine G.step (OG.box (cs := [.int .i64 (cr), vcd]) rfl rfl rfl) rfl rfl rfl ?_
 rintro _ _ ⟨g1, rfl, rfl⟩
 refine G.stepD (OD.assign rfl rfl) rfl rfl rfl ?_
 refine G.nil (GE.then_ (GC.seq (GC.region ?_)))
 refine G.stepD (OD.loadAgg rfl ti28 rfl (i := 0) rfl (us := [.int .i64 (cr), vcd]) rfl rfl) rfl rfl rfl ?_
 refine G.step (OG.call [.agg #[.int .i64 (cr), vcd]] ent119 rfl rfl rfl rfl (by exact (lengths_w scd (Ent.drop 1 ecd) (hty)))) rfl rfl rfl ?_
 rintro v2 _ ⟨_, rfl, hs3, rfl⟩
 refine G.stepD (OD.assign rfl rfl) rfl rfl rfl ?_
 refine G.nil (GE.then_ (GC.seq (GC.region ?_)))
 refine G.stepD (OD.loadAgg rfl ti28 rfl (i := 1) rfl (us := [.int .i64 (cr), vcd]) rfl rfl) rfl rfl rfl ?_
 refine G.stepD (OD.move rfl rfl) rfl rfl rfl ?_
 refine G.stepD (OD.move rfl rfl) rfl rfl rfl ?_
 refine G.step (OG.call [.agg #[.int .i64 (cr), vcd], vy, vy] ent120 rfl rfl rfl rfl (by exact (inner_w scd (Ent.drop 2 ecd) sy (Ent.drop 2 ey) sy (Ent.drop 2 ey) (hty) (hy) (hy)))) rfl rfl rfl ?_
 rintro _ _ ⟨rfl, rfl⟩
 refine G.stepD (OD.quo rfl rfl rfl (by omega)) rfl rfl rfl ?_
 refine G.stepD (OD.assign rfl rfl) rfl rfl rfl ?_
 refine G.nil (GE.then_ (GC.seq (GC.region ?_)))
 refine G.step (OG.buildInts (xs := []) (is := []) rfl et22 rfl rfl rfl rfl rfl) rfl rfl rfl ?_
 rintro v4 _ ⟨hs5, rfl⟩
 refine G.stepD (OD.assign rfl rfl) rfl rfl rfl ?_
 refine G.nil (GE.then_ (GC.seq (GC.seq (GC.region ?_))))
 refine G.stepD (OD.move rfl rfl) rfl rfl rfl ?_
 refine G.stepD (OD.len rfl rfl et22 rfl (Ent.drop 3 ey)) rfl rfl rfl ?_
 refine G.stepD (OD.move rfl rfl) rfl rfl rfl ?_
 refine G.nil (GE.then_ (GC.block ?_))
 refine GC.loop (ι := Nat × List Int × Value) (fun ⟨i, ys, v⟩ => [(5, v2), (6, .int .i64 (IntKind.i64.wrap ((inF cr cd y y).tdiv 2))), (18, vy), (19, .int .i64 ((y.length : Nat))), (7, v), (20, .int .i64 ((i : Int)))]) (fun ⟨i, ys, v⟩ => ints 3 v ys :: ints 3 v2 (lenF cr cd) :: box g1 28 [.int .i64 (cr), vcd] :: own) (fun ⟨i, ys, v⟩ => (i ≤ y.length) ∧ (IsS v) ∧ (ys = (List.range i).map (crI cr cd y))) (fun ⟨i, ys, v⟩ => y.length - i) (0, [], v4) (⟨by omega, hs5, rfl⟩) ⟨rfl, rfl, rfl, rfl, rfl, rfl, trivial⟩ [] 0 rfl ?_
 rintro ⟨i, ys, v⟩ ⟨hi, hv, hys⟩
 have hyl : ys.length = i := by rw [hys]; simp
 refine GC.seq (GC.region ?_)
 refine G.stepD (OD.lss rfl rfl rfl) rfl rfl rfl ?_
 refine G.nil (GE.then_ (GC.seq ?_))
 refine GC.cond rfl (fun hc6 => ?_) (fun hc6 => ?_)
 replace hc6 := of_decide_eq_true hc6
 refine GC.skip (GE.then_ (GC.seq (GC.block (GC.seq (GC.region ?_)))))
 refine G.stepD (OD.move rfl rfl) rfl rfl rfl ?_
 refine G.stepD (OD.indexAddr rfl et22 rfl (Ent.drop 3 ey) rfl (by omega)) rfl rfl rfl ?_
 refine G.stepD (OD.loadInt rfl ti3 rfl (Ent.drop 3 ey) (by omega)) rfl rfl rfl ?_
 refine G.stepD (OD.assign rfl rfl) rfl rfl rfl ?_
 refine G.stepD (OD.assign rfl rfl) rfl rfl rfl ?_
 refine G.nil (GE.then_ (GC.region ?_))
 refine G.stepD (OD.move rfl rfl) rfl rfl rfl ?_
 refine G.stepD (OD.move rfl rfl) rfl rfl rfl ?_
 refine G.stepD (OD.move rfl rfl) rfl rfl rfl ?_
 refine G.stepD (OD.move rfl rfl) rfl rfl rfl ?_
 refine G.stepD (OD.indexAddr rfl et22 rfl (Ent.ints (i := 1) rfl) rfl (by omega)) rfl rfl rfl ?_
 refine G.stepD (OD.loadInt rfl ti3 rfl (Ent.ints (i := 1) rfl) (by omega)) rfl rfl rfl ?_
 refine G.stepD (OD.mul rfl rfl rfl) rfl rfl rfl ?_
 refine G.stepD (OD.move rfl rfl) rfl rfl rfl ?_
 refine G.stepD (OD.quo rfl rfl rfl (by omega)) rfl rfl rfl ?_
 refine G.step (OG.buildInts (xs := [.tmp 33]) (is := [IntKind.i64.wrap ((IntKind.i64.wrap ((y.getD (i) 0) * ((lenF cr cd).getD (i) 0))).tdiv (IntKind.i64.wrap ((inF cr cd y y).tdiv 2)))]) rfl et22 rfl rfl rfl rfl rfl) rfl rfl rfl ?_
 rintro v7 _ ⟨hs8, rfl⟩
 refine G.step (OG.appendInts 1 rfl rfl et22 rfl rfl rfl (Ent.ints (i := 0) rfl) (by first | omega | (simp; omega))) rfl rfl rfl ?_
 rintro v9 _ ⟨hs10, rfl⟩
 refine G.stepD (OD.assign rfl rfl) rfl rfl rfl ?_
 refine G.nil (GE.blockN (GE.then_ (GC.region ?_)))
 refine G.stepD (OD.addI rfl rfl rfl (by omega)) rfl rfl rfl ?_
 refine G.stepD (OD.move rfl rfl) rfl rfl rfl ?_
 refine G.nil ?_
 exact GE.again (i + 1, ys ++ [IntKind.i64.wrap ((IntKind.i64.wrap ((y.getD (i) 0) * ((lenF cr cd).getD (i) 0))).tdiv (IntKind.i64.wrap ((inF cr cd y y).tdiv 2)))], v9) (⟨by omega, hs10, by rw [hys]; exact cr_step⟩) (by first | omega | (dsimp only; omega)) ⟨rfl, rfl, rfl, rfl, rfl, rfl, trivial⟩ [1, 1, 1] 1 rfl
 replace hc6 := of_decide_eq_false hc6
 refine GC.exit (GE.pass (GE.pass (GE.hit (GE.then_ (GC.seq (GC.region ?_))))))
 refine G.stepD (OD.move rfl rfl) rfl rfl rfl ?_
 refine G.stepD (OD.assign rfl rfl) rfl rfl rfl ?_
 refine G.nil (GE.then_ (GC.ret ?_))
 exact GE.body [0] 2 (res1 rfl rfl) rfl (⟨v, rfl, hv, congrArg (fun (l0 : List Int) => ints 3 v l0 :: own) ((by rw [hys, show i = y.length by omega]; rfl : ys = crF cr cd y))⟩)
end Go.Proofs.YtmckgdekblphoaaGreatDoor
