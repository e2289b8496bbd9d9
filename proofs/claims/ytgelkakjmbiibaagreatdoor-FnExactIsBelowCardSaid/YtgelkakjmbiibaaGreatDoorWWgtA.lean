/-
  Weights of a matrix: contracts by walks.
-/
import Derived.Test.YtgelkakjmbiibaaGreatDoorFct
import Derived.Test.YtgelkakjmbiibaaGreatDoorWTofA
import Derived.Test.YtgelkakjmbiibaaGreatDoorZ23
namespace Go.Proofs.YtgelkakjmbiibaaGreatDoor
set_option linter.unusedVariables false
set_option linter.unusedSimpArgs false
open Go.RowKit
end Go.Proofs.YtgelkakjmbiibaaGreatDoor
namespace Go.Proofs.YtgelkakjmbiibaaGreatDoor
set_option linter.unusedVariables false
set_option linter.unusedSimpArgs false
open Go.RowKit
set_option maxRecDepth 100000 in
theorem weightOf_w {W : World} {own : List Asn} {cr : Int} {vcd : Value} {cd : List Int} {vx : Value} {x : List Int}  (scd : IsS vcd) (ecd : Ent own fun w => Ints w vcd cd)   (sx : IsS vx) (ex : Ent own fun w => Ints w vx x)  (hcr : 1 ≤ cr ∧ cr ≤ 4) (hcd : (cd.length : Int) = cr * cr) (hx : (x.length : Int) = cr) : Spec Tryz.prog 82 [.agg #[.int .i64 (cr), vcd], vx] W own (fun v ow => ∃ (r0 : Value), v = r0 ∧ IsS r0 ∧ ow = ints 3 r0 (wtF cr cd x) :: own) := by
 have hrl : (List.replicate (cr : Int).toNat (0 : Int)).length = cr.toNat := List.length_replicate
 refine Spec.enter Tryz.f82 _ Tryz.func82 rfl (n := 39) rfl rfl ?_
 refine GC.seq (GC.region ?_)
 refine G.step (OG.box (cs := [.int .i64 (cr), vcd]) rfl rfl rfl) rfl rfl rfl ?_
 rintro _ _ ⟨g1, rfl, rfl⟩
 refine G.stepD (OD.assign rfl rfl) rfl rfl rfl ?_
 refine G.nil (GE.then_ (GC.seq (GC.region ?_)))
 refine G.stepD (OD.fieldAddr rfl rfl fa27_0) rfl rfl rfl ?_
 refine G.stepD (OD.load rfl ti3 rfl (i := 0) rfl rfl) rfl rfl rfl ?_
 refine G.step (OG.makeInts rfl et22 rfl rfl (by omega)) rfl rfl rfl ?_
 rintro v2 _ ⟨hs3, rfl⟩
 refine G.stepD (OD.assign rfl rfl) rfl rfl rfl ?_
 refine G.nil (GE.then_ (GC.seq (GC.seq (GC.region ?_))))
 refine G.stepD (OD.move rfl rfl) rfl rfl rfl ?_
 refine G.stepD (OD.len rfl rfl et22 rfl (Ent.ints (i := 0) rfl)) rfl rfl rfl ?_
 refine G.stepD (OD.move rfl rfl) rfl rfl rfl ?_
 refine G.nil (GE.then_ (GC.block ?_))
 refine GC.loop (ι := Nat × List Int) (fun ⟨i, ys⟩ => [(1, vx), (2, .pointer (some ⟨g1, 0, none⟩)), (5, v2), (13, .int .i64 (((List.replicate (cr : Int).toNat (0 : Int)).length : Nat))), (14, .int .i64 ((i : Int)))]) (fun ⟨i, ys⟩ => ints 3 v2 ys :: box g1 27 [.int .i64 (cr), vcd] :: own) (fun ⟨i, ys⟩ => (i ≤ cr.toNat) ∧ (ys.length = cr.toNat) ∧ (ys = (List.range i).foldl (wtI cr cd x) (List.replicate cr.toNat 0))) (fun ⟨i, ys⟩ => cr.toNat - i) (0, (List.replicate (cr : Int).toNat 0)) (⟨by omega, by simp, rfl⟩) ⟨rfl, rfl, rfl, rfl, rfl, trivial⟩ [] 0 rfl ?_
 rintro ⟨i, ys⟩ ⟨hi, hyl, hy⟩
 refine GC.seq (GC.region ?_)
 refine G.stepD (OD.lss rfl rfl rfl) rfl rfl rfl ?_
 refine G.nil (GE.then_ (GC.seq ?_))
 refine GC.cond rfl (fun hc4 => ?_) (fun hc4 => ?_)
 replace hc4 := of_decide_eq_true hc4
 refine GC.skip (GE.then_ (GC.seq (GC.block (GC.seq (GC.region ?_)))))
 refine G.stepD (OD.move rfl rfl) rfl rfl rfl ?_
 refine G.stepD (OD.assign rfl rfl) rfl rfl rfl ?_
 refine G.nil (GE.then_ (GC.seq (GC.region ?_)))
 refine G.stepD (OD.move rfl rfl) rfl rfl rfl ?_
 refine G.stepD (OD.len rfl rfl et22 rfl (Ent.drop 2 ex)) rfl rfl rfl ?_
 refine G.stepD (OD.move rfl rfl) rfl rfl rfl ?_
 refine G.nil (GE.then_ (GC.block ?_))
 refine GC.loop (ι := Nat × List Int) (fun ⟨j, zs⟩ => [(1, vx), (2, .pointer (some ⟨g1, 0, none⟩)), (5, v2), (13, .int .i64 (((List.replicate (cr : Int).toNat (0 : Int)).length : Nat))), (14, .int .i64 ((i : Int))), (6, .int .i64 ((i : Int))), (17, vx), (18, .int .i64 ((x.length : Nat))), (19, .int .i64 ((j : Int)))]) (fun ⟨j, zs⟩ => ints 3 v2 zs :: box g1 27 [.int .i64 (cr), vcd] :: own) (fun ⟨j, zs⟩ => (j ≤ x.length) ∧ (zs.length = cr.toNat) ∧ (zs = (List.range j).foldl (fun (o : List Int) (j : Nat) => o.set i (IntKind.i64.wrap (o.getD i 0 + IntKind.i64.wrap (atI cr cd i j * x.getD j 0)))) ys)) (fun ⟨j, zs⟩ => x.length - j) (0, ys) (⟨by omega, hyl, rfl⟩) ⟨rfl, rfl, rfl, rfl, rfl, rfl, rfl, rfl, rfl, trivial⟩ [] 0 rfl ?_
 rintro ⟨j, zs⟩ ⟨hj, hzl, hz⟩
 refine GC.seq (GC.region ?_)
 refine G.stepD (OD.lss rfl rfl rfl) rfl rfl rfl ?_
 refine G.nil (GE.then_ (GC.seq ?_))
 refine GC.cond rfl (fun hc5 => ?_) (fun hc5 => ?_)
 replace hc5 := of_decide_eq_true hc5
 have hxx := idx_bd (n := cr) (i := i) (j := j) ⟨by omega, by omega⟩ ⟨by omega, by omega⟩ (by omega)
 refine GC.skip (GE.then_ (GC.seq (GC.block (GC.seq (GC.region ?_)))))
 refine G.stepD (OD.move rfl rfl) rfl rfl rfl ?_
 refine G.stepD (OD.indexAddr rfl et22 rfl (Ent.drop 2 ex) rfl (by omega)) rfl rfl rfl ?_
 refine G.stepD (OD.loadInt rfl ti3 rfl (Ent.drop 2 ex) (by omega)) rfl rfl rfl ?_
 refine G.stepD (OD.assign rfl rfl) rfl rfl rfl ?_
 refine G.stepD (OD.assign rfl rfl) rfl rfl rfl ?_
 refine G.nil (GE.then_ ?_)
 refine GC.at [] 0 (env' := [(1, vx), (2, .pointer (some ⟨g1, 0, none⟩)), (5, v2), (13, .int .i64 (((List.replicate (cr : Int).toNat (0 : Int)).length : Nat))), (14, .int .i64 ((i : Int))), (6, .int .i64 ((i : Int))), (17, vx), (18, .int .i64 ((x.length : Nat))), (19, .int .i64 ((j : Int))), (7, .int .i64 ((j : Int))), (8, .int .i64 (x.getD (j) 0))]) ⟨rfl, rfl, rfl, rfl, rfl, rfl, rfl, rfl, rfl, rfl, rfl, trivial⟩ rfl ?_
 refine GC.par (its := [⟨24, [], [], [], [], fun _ => v2, fun _ => True, fun _ => []⟩,
     ⟨25, [], [], [], [], fun _ => .int .i64 ((i : Int)), fun _ => True, fun _ => []⟩,
     ⟨26, [(0, 24), (1, 25)], [], [], [], fun _ => elemPtr v2 1 (i), fun _ => True, fun _ => []⟩,
     ⟨27, [(2, 26)], [], [], [], fun _ => .int .i64 (zs.getD (i) 0), fun _ => True, fun _ => []⟩,
     ⟨28, [], [], [], [], fun _ => .agg #[.int .i64 (cr), vcd], fun _ => True, fun _ => []⟩,
     ⟨29, [], [], [], [], fun _ => .int .i64 ((i : Int)), fun _ => True, fun _ => []⟩,
     ⟨30, [], [], [], [], fun _ => .int .i64 ((j : Int)), fun _ => True, fun _ => []⟩,
     ⟨31, [(4, 28), (5, 29), (6, 30)], [], [], [], fun _ => .int .i64 (atI cr cd (i : Int) (j : Int)), fun _ => True, fun _ => []⟩,
     ⟨32, [], [], [], [], fun _ => .int .i64 (x.getD (j) 0), fun _ => True, fun _ => []⟩,
     ⟨33, [(7, 31), (8, 32)], [], [], [], fun _ => .int .i64 (IntKind.i64.wrap ((atI cr cd (i : Int) (j : Int)) * (x.getD (j) 0))), fun _ => True, fun _ => []⟩,
     ⟨34, [(3, 27), (9, 33)], [], [], [], fun _ => .int .i64 (IntKind.i64.wrap ((zs.getD (i) 0) + (IntKind.i64.wrap ((atI cr cd (i : Int) (j : Int)) * (x.getD (j) 0))))), fun _ => True, fun _ => []⟩,
     ⟨35, [(0, 24), (1, 25)], [], [], [], fun _ => elemPtr v2 1 (i), fun _ => True, fun _ => []⟩]) (by kernel_rfl) (by kernel_rfl) (POps.cons ?_ (POps.cons ?_ (POps.cons ?_ (POps.cons ?_ (POps.cons ?_ (POps.cons ?_ (POps.cons ?_ (POps.cons ?_ (POps.cons ?_ (POps.cons ?_ (POps.cons ?_ (POps.cons ?_ POps.nil)))))))))))) ?_
 intro θ R hd
 exact Opp.plain (OG.imp (OD.move rfl rfl) (by exact fun _ _ h=>pk h rfl trivial rfl)) rfl
 intro θ R hd
 exact Opp.plain (OG.imp (OD.move rfl rfl) (by exact fun _ _ h=>pk h rfl trivial rfl)) rfl
 rintro θ R ⟨h0d, h1d, _⟩
 exact Opp.plain (OG.imp (OD.indexAddr rfl et22 rfl (Ent.ints (i := 0) rfl) rfl (by omega)) (by exact fun _ _ h=>pk h rfl trivial rfl)) rfl
 rintro θ R ⟨h2d, _⟩
 exact Opp.plain (OG.imp (OD.loadInt rfl ti3 rfl (Ent.ints (i := 0) rfl) (by omega)) (by exact fun _ _ h=>pk h rfl trivial rfl)) rfl
 intro θ R hd
 exact Opp.plain (OG.imp (OD.loadAgg rfl ti27 rfl (i := 1) rfl (us := [.int .i64 (cr), vcd]) rfl rfl) (by exact fun _ _ h=>pk h rfl trivial rfl)) rfl
 intro θ R hd
 exact Opp.plain (OG.imp (OD.move rfl rfl) (by exact fun _ _ h=>pk h rfl trivial rfl)) rfl
 intro θ R hd
 exact Opp.plain (OG.imp (OD.move rfl rfl) (by exact fun _ _ h=>pk h rfl trivial rfl)) rfl
 rintro θ R ⟨h4d, h5d, h6d, _⟩
 exact Opp.plain (OG.imp (OG.call [.agg #[.int .i64 (cr), vcd], .int .i64 ((i : Int)), .int .i64 ((j : Int))] ent125 rfl rfl rfl rfl (by exact (at_w scd (Ent.drop 2 ecd.app) (by omega)))) (by exact fun _ _ h=>pk h rfl trivial rfl)) rfl
 intro θ R hd
 exact Opp.plain (OG.imp (OD.move rfl rfl) (by exact fun _ _ h=>pk h rfl trivial rfl)) rfl
 rintro θ R ⟨h7d, h8d, _⟩
 exact Opp.plain (OG.imp (OD.mul rfl rfl rfl) (by exact fun _ _ h=>pk h rfl trivial rfl)) rfl
 rintro θ R ⟨h3d, h9d, _⟩
 exact Opp.plain (OG.imp (OD.add rfl rfl rfl) (by exact fun _ _ h=>pk h rfl trivial rfl)) rfl
 rintro θ R ⟨h0d, h1d, _⟩
 exact Opp.plain (OG.imp (OD.indexAddr rfl et22 rfl (Ent.ints (i := 0) rfl) rfl (by omega)) (by exact fun _ _ h=>pk h rfl trivial rfl)) rfl
 intro θ hall
 obtain ⟨_, _, _, _, _, _, _, _, _, _, _, _, _⟩ := hall
 refine G.at [] 0 (env' := [(1, vx), (2, .pointer (some ⟨g1, 0, none⟩)), (5, v2), (13, .int .i64 (((List.replicate (cr : Int).toNat (0 : Int)).length : Nat))), (14, .int .i64 ((i : Int))), (6, .int .i64 ((i : Int))), (17, vx), (18, .int .i64 ((x.length : Nat))), (19, .int .i64 ((j : Int))), (34, .int .i64 (IntKind.i64.wrap ((zs.getD (i) 0) + (IntKind.i64.wrap ((atI cr cd (i : Int) (j : Int)) * (x.getD (j) 0)))))), (35, elemPtr v2 1 (i))]) ⟨rfl, rfl, rfl, rfl, rfl, rfl, rfl, rfl, rfl, rfl, rfl, trivial⟩ (own' := ints 3 v2 zs :: box g1 27 [.int .i64 (cr), vcd] :: own) rfl ?_
 show G _ _ _ [_] _ _ _ _
 refine G.stepD0 (OD.storeInt rfl ti3 rfl rfl (i := 0) rfl (by omega)) rfl rfl ?_
 refine G.nil (GE.blockN (GE.then_ (GC.region ?_)))
 refine G.stepD (OD.addI rfl rfl rfl (by first | omega | (simp only [List.length_set, List.length_replicate]; omega))) rfl rfl rfl ?_
 refine G.stepD (OD.move rfl rfl) rfl rfl rfl ?_
 refine G.nil ?_
 exact GE.again (j + 1, (zs).set (i) (IntKind.i64.wrap ((zs.getD (i) 0) + (IntKind.i64.wrap ((atI cr cd (i : Int) (j : Int)) * (x.getD (j) 0)))))) (⟨by omega, by rw [List.length_set]; exact hzl, fold_next hz rfl⟩) (by first | omega | (dsimp only; omega)) ⟨rfl, rfl, rfl, rfl, rfl, rfl, rfl, rfl, rfl, trivial⟩ [] 0 rfl
 replace hc5 := of_decide_eq_false hc5
 refine GC.exit (GE.pass (GE.pass (GE.hit (GE.blockN (GE.then_ (GC.region ?_))))))
 refine G.stepD (OD.addI rfl rfl rfl (by omega)) rfl rfl rfl ?_
 refine G.stepD (OD.move rfl rfl) rfl rfl rfl ?_
 refine G.nil ?_
 exact GE.again (i + 1, zs) (⟨by omega, hzl, fold_next hy (by rw [hz, show j = x.length by omega]; rfl)⟩) (by first | omega | (dsimp only; omega)) ⟨rfl, rfl, rfl, rfl, rfl, trivial⟩ [] 0 rfl
 replace hc4 := of_decide_eq_false hc4
 refine GC.exit (GE.pass (GE.pass (GE.hit (GE.then_ (GC.seq (GC.region ?_))))))
 refine G.stepD (OD.move rfl rfl) rfl rfl rfl ?_
 refine G.stepD (OD.assign rfl rfl) rfl rfl rfl ?_
 refine G.nil (GE.then_ (GC.ret ?_))
 exact GE.body [0] 1 (res1 rfl rfl) rfl (⟨v2, rfl, hs3, congrArg (fun (l0 : List Int) => ints 3 v2 l0 :: own) ((by rw [hy, show i = cr.toNat by omega]; rfl : ys = wtF cr cd x))⟩)
set_option maxRecDepth 100000 in
theorem l6Reflect_w {W : World} {own : List Asn} {cr : Int} {vcd : Value} {cd : List Int} {i : Int} {vx : Value} {x : List Int}  (scd : IsS vcd) (ecd : Ent own fun w => Ints w vcd cd)   (sx : IsS vx) (ex : Ent own fun w => Ints w vx x)  (hcr : 1 ≤ cr ∧ cr ≤ 4) (hcd : (cd.length : Int) = cr * cr) (hi : 0 ≤ i ∧ i < cr) (hw : (x.length : Int) = cr) : Spec Tryz.prog 117 [.agg #[.int .i64 (cr), vcd], .int .i64 (i), vx] W own (fun v ow => ∃ (r0 : Value), v = r0 ∧ IsS r0 ∧ ow = ints 3 r0 (rfF cr cd i x) :: own) := by
 refine Spec.enter Tryz.f117 _ Tryz.func117 rfl (n := 35) rfl rfl ?_
 refine GC.seq (GC.region ?_)
 refine G.step (OG.box (cs := [.int .i64 (cr), vcd]) rfl rfl rfl) rfl rfl rfl ?_
 rintro _ _ ⟨g1, rfl, rfl⟩
 refine G.stepD (OD.assign rfl rfl) rfl rfl rfl ?_
 refine G.nil (GE.then_ (GC.seq (GC.region ?_)))
 refine G.stepD (OD.move rfl rfl) rfl rfl rfl ?_
 refine G.step (OG.call [vx] ent118 rfl rfl rfl rfl (by exact (l1Ints_w sx (Ent.drop 1 ex) (by omega)))) rfl rfl rfl ?_
 rintro v2 _ ⟨_, rfl, hs3, rfl⟩
 refine G.stepD (OD.assign rfl rfl) rfl rfl rfl ?_
 refine G.nil (GE.then_ (GC.seq (GC.seq (GC.region ?_))))
 refine G.stepD (OD.assign rfl rfl) rfl rfl rfl ?_
 refine G.nil (GE.then_ (GC.block ?_))
 refine GC.loop (ι := Nat × List Int) (fun ⟨k, ys⟩ => [(1, .int .i64 (i)), (2, vx), (3, .pointer (some ⟨g1, 0, none⟩)), (7, v2), (8, .int .i64 ((k : Int)))]) (fun ⟨k, ys⟩ => ints 3 v2 ys :: box g1 27 [.int .i64 (cr), vcd] :: own) (fun ⟨k, ys⟩ => (k ≤ x.length) ∧ (ys.length = x.length) ∧ (∀ t, k ≤ t → ys.getD t 0 = x.getD t 0) ∧ (ys = (List.range k).foldl (rfI cr cd i x) x)) (fun ⟨k, ys⟩ => x.length - k) (0, x) (⟨by omega, rfl, fun _ _ => rfl, rfl⟩) ⟨rfl, rfl, rfl, rfl, rfl, trivial⟩ [] 0 rfl ?_
 rintro ⟨k, ys⟩ ⟨hk, hyl, hsm, hy⟩
 refine GC.seq (GC.seq (GC.region ?_))
 refine G.stepD (OD.move rfl rfl) rfl rfl rfl ?_
 refine G.stepD (OD.fieldAddr rfl rfl fa27_0) rfl rfl rfl ?_
 refine G.stepD (OD.load rfl ti3 rfl (i := 1) rfl rfl) rfl rfl rfl ?_
 refine G.stepD (OD.lss rfl rfl rfl) rfl rfl rfl ?_
 refine G.nil (GE.then_ ?_)
 refine GC.cond rfl (fun hc4 => ?_) (fun hc4 => ?_)
 replace hc4 := of_decide_eq_true hc4
 have hxx := idx_bd (n := cr) (i := k) (j := i) ⟨by omega, by omega⟩ ⟨by omega, by omega⟩ (by omega)
 refine GC.skip (GE.then_ (GC.seq (GC.block ?_)))
 refine GC.at [] 0 (env' := [(1, .int .i64 (i)), (2, vx), (3, .pointer (some ⟨g1, 0, none⟩)), (7, v2), (8, .int .i64 ((k : Int)))]) ⟨rfl, rfl, rfl, rfl, rfl, trivial⟩ rfl ?_
 refine GC.par (its := [⟨17, [], [], [], [], fun _ => v2, fun _ => True, fun _ => []⟩,
     ⟨18, [], [], [], [], fun _ => .int .i64 ((k : Int)), fun _ => True, fun _ => []⟩,
     ⟨19, [], [], [], [], fun _ => vx, fun _ => True, fun _ => []⟩,
     ⟨20, [], [], [], [], fun _ => .int .i64 ((k : Int)), fun _ => True, fun _ => []⟩,
     ⟨21, [(2, 19), (3, 20)], [], [], [], fun _ => elemPtr vx 1 (k), fun _ => True, fun _ => []⟩,
     ⟨22, [(4, 21)], [], [], [], fun _ => .int .i64 (x.getD (k) 0), fun _ => True, fun _ => []⟩,
     ⟨23, [], [], [], [], fun _ => vx, fun _ => True, fun _ => []⟩,
     ⟨24, [], [], [], [], fun _ => .int .i64 (i), fun _ => True, fun _ => []⟩,
     ⟨25, [(6, 23), (7, 24)], [], [], [], fun _ => elemPtr vx 1 ((i : Int).toNat), fun _ => True, fun _ => []⟩,
     ⟨26, [(8, 25)], [], [], [], fun _ => .int .i64 (x.getD ((i : Int).toNat) 0), fun _ => True, fun _ => []⟩,
     ⟨27, [], [], [], [], fun _ => .agg #[.int .i64 (cr), vcd], fun _ => True, fun _ => []⟩,
     ⟨28, [], [], [], [], fun _ => .int .i64 ((k : Int)), fun _ => True, fun _ => []⟩,
     ⟨29, [], [], [], [], fun _ => .int .i64 (i), fun _ => True, fun _ => []⟩,
     ⟨30, [(10, 27), (11, 28), (12, 29)], [], [], [], fun _ => .int .i64 (atI cr cd (k : Int) i), fun _ => True, fun _ => []⟩,
     ⟨31, [(9, 26), (13, 30)], [], [], [], fun _ => .int .i64 (IntKind.i64.wrap ((x.getD ((i : Int).toNat) 0) * (atI cr cd (k : Int) i))), fun _ => True, fun _ => []⟩,
     ⟨32, [(5, 22), (14, 31)], [], [], [], fun _ => .int .i64 (IntKind.i64.wrap ((x.getD (k) 0) - (IntKind.i64.wrap ((x.getD ((i : Int).toNat) 0) * (atI cr cd (k : Int) i))))), fun _ => True, fun _ => []⟩,
     ⟨33, [(0, 17), (1, 18)], [], [], [], fun _ => elemPtr v2 1 (k), fun _ => True, fun _ => []⟩]) (by kernel_rfl) (by kernel_rfl) (POps.cons ?_ (POps.cons ?_ (POps.cons ?_ (POps.cons ?_ (POps.cons ?_ (POps.cons ?_ (POps.cons ?_ (POps.cons ?_ (POps.cons ?_ (POps.cons ?_ (POps.cons ?_ (POps.cons ?_ (POps.cons ?_ (POps.cons ?_ (POps.cons ?_ (POps.cons ?_ (POps.cons ?_ POps.nil))))))))))))))))) ?_
 intro θ R hd
 exact Opp.plain (OG.imp (OD.move rfl rfl) (by exact fun _ _ h=>pk h rfl trivial rfl)) rfl
 intro θ R hd
 exact Opp.plain (OG.imp (OD.move rfl rfl) (by exact fun _ _ h=>pk h rfl trivial rfl)) rfl
 intro θ R hd
 exact Opp.plain (OG.imp (OD.move rfl rfl) (by exact fun _ _ h=>pk h rfl trivial rfl)) rfl
 intro θ R hd
 exact Opp.plain (OG.imp (OD.move rfl rfl) (by exact fun _ _ h=>pk h rfl trivial rfl)) rfl
 rintro θ R ⟨h2d, h3d, _⟩
 exact Opp.plain (OG.imp (OD.indexAddr rfl et22 rfl (Ent.drop 2 ex.app) rfl (by omega)) (by exact fun _ _ h=>pk h rfl trivial rfl)) rfl
 rintro θ R ⟨h4d, _⟩
 exact Opp.plain (OG.imp (OD.loadInt rfl ti3 rfl (Ent.drop 2 ex.app) (by omega)) (by exact fun _ _ h=>pk h rfl trivial rfl)) rfl
 intro θ R hd
 exact Opp.plain (OG.imp (OD.move rfl rfl) (by exact fun _ _ h=>pk h rfl trivial rfl)) rfl
 intro θ R hd
 exact Opp.plain (OG.imp (OD.move rfl rfl) (by exact fun _ _ h=>pk h rfl trivial rfl)) rfl
 rintro θ R ⟨h6d, h7d, _⟩
 exact Opp.plain (OG.imp (OD.indexAddr rfl et22 rfl (Ent.drop 2 ex.app) rfl (by omega)) (by exact fun _ _ h=>pk h rfl trivial rfl)) rfl
 rintro θ R ⟨h8d, _⟩
 exact Opp.plain (OG.imp (OD.loadInt rfl ti3 rfl (Ent.drop 2 ex.app) (by omega)) (by exact fun _ _ h=>pk h rfl trivial rfl)) rfl
 intro θ R hd
 exact Opp.plain (OG.imp (OD.loadAgg rfl ti27 rfl (i := 1) rfl (us := [.int .i64 (cr), vcd]) rfl rfl) (by exact fun _ _ h=>pk h rfl trivial rfl)) rfl
 intro θ R hd
 exact Opp.plain (OG.imp (OD.move rfl rfl) (by exact fun _ _ h=>pk h rfl trivial rfl)) rfl
 intro θ R hd
 exact Opp.plain (OG.imp (OD.move rfl rfl) (by exact fun _ _ h=>pk h rfl trivial rfl)) rfl
 rintro θ R ⟨h10d, h11d, h12d, _⟩
 exact Opp.plain (OG.imp (OG.call [.agg #[.int .i64 (cr), vcd], .int .i64 ((k : Int)), .int .i64 (i)] ent143 rfl rfl rfl rfl (by exact (l5At_w scd (Ent.drop 2 ecd.app) (by omega)))) (by exact fun _ _ h=>pk h rfl trivial rfl)) rfl
 rintro θ R ⟨h9d, h13d, _⟩
 exact Opp.plain (OG.imp (OD.mul rfl rfl rfl) (by exact fun _ _ h=>pk h rfl trivial rfl)) rfl
 rintro θ R ⟨h5d, h14d, _⟩
 exact Opp.plain (OG.imp (OD.sub rfl rfl rfl) (by exact fun _ _ h=>pk h rfl trivial rfl)) rfl
 rintro θ R ⟨h0d, h1d, _⟩
 exact Opp.plain (OG.imp (OD.indexAddr rfl et22 rfl (Ent.ints (i := 0) rfl) rfl (by omega)) (by exact fun _ _ h=>pk h rfl trivial rfl)) rfl
 intro θ hall
 obtain ⟨_, _, _, _, _, _, _, _, _, _, _, _, _, _, _, _, _, _⟩ := hall
 refine G.at [] 0 (env' := [(1, .int .i64 (i)), (2, vx), (3, .pointer (some ⟨g1, 0, none⟩)), (7, v2), (8, .int .i64 ((k : Int))), (32, .int .i64 (IntKind.i64.wrap ((x.getD (k) 0) - (IntKind.i64.wrap ((x.getD ((i : Int).toNat) 0) * (atI cr cd (k : Int) i)))))), (33, elemPtr v2 1 (k))]) ⟨rfl, rfl, rfl, rfl, rfl, rfl, rfl, trivial⟩ (own' := ints 3 v2 ys :: box g1 27 [.int .i64 (cr), vcd] :: own) rfl ?_
 show G _ _ _ [_] _ _ _ _
 refine G.stepD0 (OD.storeInt rfl ti3 rfl rfl (i := 0) rfl (by omega)) rfl rfl ?_
 refine G.nil (GE.blockN (GE.then_ (GC.region ?_)))
 refine G.stepD (OD.move rfl rfl) rfl rfl rfl ?_
 refine G.stepD (OD.addI rfl rfl rfl (by first | omega | (simp only [List.length_set, List.length_replicate]; omega))) rfl rfl rfl ?_
 refine G.stepD (OD.assign rfl rfl) rfl rfl rfl ?_
 refine G.nil ?_
 exact GE.again (k + 1, (ys).set (k) (IntKind.i64.wrap ((x.getD (k) 0) - (IntKind.i64.wrap ((x.getD ((i : Int).toNat) 0) * (atI cr cd (k : Int) i)))))) (⟨by omega, by rw [List.length_set]; exact hyl, fun t ht => by rw [set_getD_ne (by omega)]; exact hsm t (by omega), fold_next hy (by first | rfl | (simp only [rfI]; rw [hsm k (Nat.le_refl k)]))⟩) (by first | omega | (dsimp only; omega)) ⟨rfl, rfl, rfl, rfl, rfl, trivial⟩ [] 0 rfl
 replace hc4 := of_decide_eq_false hc4
 refine GC.exit (GE.pass (GE.pass (GE.hit (GE.then_ (GC.seq (GC.region ?_))))))
 refine G.stepD (OD.move rfl rfl) rfl rfl rfl ?_
 refine G.stepD (OD.assign rfl rfl) rfl rfl rfl ?_
 refine G.nil (GE.then_ (GC.ret ?_))
 exact GE.body [0] 1 (res1 rfl rfl) rfl (⟨v2, rfl, hs3, congrArg (fun (l0 : List Int) => ints 3 v2 l0 :: own) ((by rw [hy, show k = x.length by omega]; rfl : ys = rfF cr cd i x))⟩)
set_option maxRecDepth 100000 in
theorem reflectWeight_w {W : World} {own : List Asn} {cr : Int} {vcd : Value} {cd : List Int} {i : Int} {vx : Value} {x : List Int}  (scd : IsS vcd) (ecd : Ent own fun w => Ints w vcd cd)   (sx : IsS vx) (ex : Ent own fun w => Ints w vx x)  (hcr : 1 ≤ cr ∧ cr ≤ 4) (hcd : (cd.length : Int) = cr * cr) (hi : 0 ≤ i ∧ i < cr) (hw : (x.length : Int) = cr) : Spec Tryz.prog 67 [.agg #[.int .i64 (cr), vcd], .int .i64 (i), vx] W own (fun v ow => ∃ (r0 : Value), v = r0 ∧ IsS r0 ∧ ow = ints 3 r0 (rfF cr cd i x) :: own) := by
 refine Spec.enter Tryz.f67 _ Tryz.func67 rfl (n := 33) rfl rfl ?_
 refine GC.seq (GC.region ?_)
 refine G.step (OG.box (cs := [.int .i64 (cr), vcd]) rfl rfl rfl) rfl rfl rfl ?_
 rintro _ _ ⟨g1, rfl, rfl⟩
 refine G.stepD (OD.assign rfl rfl) rfl rfl rfl ?_
 refine G.nil (GE.then_ (GC.seq (GC.region ?_)))
 refine G.stepD (OD.move rfl rfl) rfl rfl rfl ?_
 refine G.step (OG.call [vx] ent76 rfl rfl rfl rfl (by exact (clone_w sx (Ent.drop 1 ex) (by omega)))) rfl rfl rfl ?_
 rintro v2 _ ⟨_, rfl, hs3, rfl⟩
 refine G.stepD (OD.assign rfl rfl) rfl rfl rfl ?_
 refine G.nil (GE.then_ (GC.seq (GC.seq (GC.region ?_))))
 refine G.stepD (OD.move rfl rfl) rfl rfl rfl ?_
 refine G.stepD (OD.len rfl rfl et22 rfl (Ent.ints (i := 0) rfl)) rfl rfl rfl ?_
 refine G.stepD (OD.move rfl rfl) rfl rfl rfl ?_
 refine G.nil (GE.then_ (GC.block ?_))
 refine GC.loop (ι := Nat × List Int) (fun ⟨k, ys⟩ => [(1, .int .i64 (i)), (2, vx), (3, .pointer (some ⟨g1, 0, none⟩)), (7, v2), (12, .int .i64 ((x.length : Nat))), (13, .int .i64 ((k : Int)))]) (fun ⟨k, ys⟩ => ints 3 v2 ys :: box g1 27 [.int .i64 (cr), vcd] :: own) (fun ⟨k, ys⟩ => (k ≤ x.length) ∧ (ys.length = x.length) ∧ (∀ t, k ≤ t → ys.getD t 0 = x.getD t 0) ∧ (ys = (List.range k).foldl (rfI cr cd i x) x)) (fun ⟨k, ys⟩ => x.length - k) (0, x) (⟨by omega, rfl, fun _ _ => rfl, rfl⟩) ⟨rfl, rfl, rfl, rfl, rfl, rfl, trivial⟩ [] 0 rfl ?_
 rintro ⟨k, ys⟩ ⟨hk, hyl, hsm, hy⟩
 refine GC.seq (GC.region ?_)
 refine G.stepD (OD.lss rfl rfl rfl) rfl rfl rfl ?_
 refine G.nil (GE.then_ (GC.seq ?_))
 refine GC.cond rfl (fun hc4 => ?_) (fun hc4 => ?_)
 replace hc4 := of_decide_eq_true hc4
 have hxx := idx_bd (n := cr) (i := k) (j := i) ⟨by omega, by omega⟩ ⟨by omega, by omega⟩ (by omega)
 refine GC.skip (GE.then_ (GC.seq (GC.block (GC.seq (GC.region ?_)))))
 refine G.stepD (OD.move rfl rfl) rfl rfl rfl ?_
 refine G.stepD (OD.assign rfl rfl) rfl rfl rfl ?_
 refine G.nil (GE.then_ ?_)
 refine GC.at [] 0 (env' := [(1, .int .i64 (i)), (2, vx), (3, .pointer (some ⟨g1, 0, none⟩)), (7, v2), (12, .int .i64 ((x.length : Nat))), (13, .int .i64 ((k : Int))), (8, .int .i64 ((k : Int)))]) ⟨rfl, rfl, rfl, rfl, rfl, rfl, rfl, trivial⟩ rfl ?_
 refine GC.par (its := [⟨16, [], [], [], [], fun _ => v2, fun _ => True, fun _ => []⟩,
     ⟨17, [], [], [], [], fun _ => .int .i64 ((k : Int)), fun _ => True, fun _ => []⟩,
     ⟨18, [(0, 16), (1, 17)], [], [], [], fun _ => elemPtr v2 1 (k), fun _ => True, fun _ => []⟩,
     ⟨19, [(2, 18)], [], [], [], fun _ => .int .i64 (ys.getD (k) 0), fun _ => True, fun _ => []⟩,
     ⟨20, [], [], [], [], fun _ => vx, fun _ => True, fun _ => []⟩,
     ⟨21, [], [], [], [], fun _ => .int .i64 (i), fun _ => True, fun _ => []⟩,
     ⟨22, [(4, 20), (5, 21)], [], [], [], fun _ => elemPtr vx 1 ((i : Int).toNat), fun _ => True, fun _ => []⟩,
     ⟨23, [(6, 22)], [], [], [], fun _ => .int .i64 (x.getD ((i : Int).toNat) 0), fun _ => True, fun _ => []⟩,
     ⟨24, [], [], [], [], fun _ => .agg #[.int .i64 (cr), vcd], fun _ => True, fun _ => []⟩,
     ⟨25, [], [], [], [], fun _ => .int .i64 ((k : Int)), fun _ => True, fun _ => []⟩,
     ⟨26, [], [], [], [], fun _ => .int .i64 (i), fun _ => True, fun _ => []⟩,
     ⟨27, [(8, 24), (9, 25), (10, 26)], [], [], [], fun _ => .int .i64 (atI cr cd (k : Int) i), fun _ => True, fun _ => []⟩,
     ⟨28, [(7, 23), (11, 27)], [], [], [], fun _ => .int .i64 (IntKind.i64.wrap ((x.getD ((i : Int).toNat) 0) * (atI cr cd (k : Int) i))), fun _ => True, fun _ => []⟩,
     ⟨29, [(3, 19), (12, 28)], [], [], [], fun _ => .int .i64 (IntKind.i64.wrap ((ys.getD (k) 0) - (IntKind.i64.wrap ((x.getD ((i : Int).toNat) 0) * (atI cr cd (k : Int) i))))), fun _ => True, fun _ => []⟩,
     ⟨30, [(0, 16), (1, 17)], [], [], [], fun _ => elemPtr v2 1 (k), fun _ => True, fun _ => []⟩]) (by kernel_rfl) (by kernel_rfl) (POps.cons ?_ (POps.cons ?_ (POps.cons ?_ (POps.cons ?_ (POps.cons ?_ (POps.cons ?_ (POps.cons ?_ (POps.cons ?_ (POps.cons ?_ (POps.cons ?_ (POps.cons ?_ (POps.cons ?_ (POps.cons ?_ (POps.cons ?_ (POps.cons ?_ POps.nil))))))))))))))) ?_
 intro θ R hd
 exact Opp.plain (OG.imp (OD.move rfl rfl) (by exact fun _ _ h=>pk h rfl trivial rfl)) rfl
 intro θ R hd
 exact Opp.plain (OG.imp (OD.move rfl rfl) (by exact fun _ _ h=>pk h rfl trivial rfl)) rfl
 rintro θ R ⟨h0d, h1d, _⟩
 exact Opp.plain (OG.imp (OD.indexAddr rfl et22 rfl (Ent.ints (i := 0) rfl) rfl (by omega)) (by exact fun _ _ h=>pk h rfl trivial rfl)) rfl
 rintro θ R ⟨h2d, _⟩
 exact Opp.plain (OG.imp (OD.loadInt rfl ti3 rfl (Ent.ints (i := 0) rfl) (by omega)) (by exact fun _ _ h=>pk h rfl trivial rfl)) rfl
 intro θ R hd
 exact Opp.plain (OG.imp (OD.move rfl rfl) (by exact fun _ _ h=>pk h rfl trivial rfl)) rfl
 intro θ R hd
 exact Opp.plain (OG.imp (OD.move rfl rfl) (by exact fun _ _ h=>pk h rfl trivial rfl)) rfl
 rintro θ R ⟨h4d, h5d, _⟩
 exact Opp.plain (OG.imp (OD.indexAddr rfl et22 rfl (Ent.drop 2 ex.app) rfl (by omega)) (by exact fun _ _ h=>pk h rfl trivial rfl)) rfl
 rintro θ R ⟨h6d, _⟩
 exact Opp.plain (OG.imp (OD.loadInt rfl ti3 rfl (Ent.drop 2 ex.app) (by omega)) (by exact fun _ _ h=>pk h rfl trivial rfl)) rfl
 intro θ R hd
 exact Opp.plain (OG.imp (OD.loadAgg rfl ti27 rfl (i := 1) rfl (us := [.int .i64 (cr), vcd]) rfl rfl) (by exact fun _ _ h=>pk h rfl trivial rfl)) rfl
 intro θ R hd
 exact Opp.plain (OG.imp (OD.move rfl rfl) (by exact fun _ _ h=>pk h rfl trivial rfl)) rfl
 intro θ R hd
 exact Opp.plain (OG.imp (OD.move rfl rfl) (by exact fun _ _ h=>pk h rfl trivial rfl)) rfl
 rintro θ R ⟨h8d, h9d, h10d, _⟩
 exact Opp.plain (OG.imp (OG.call [.agg #[.int .i64 (cr), vcd], .int .i64 ((k : Int)), .int .i64 (i)] ent125 rfl rfl rfl rfl (by exact (at_w scd (Ent.drop 2 ecd.app) (by omega)))) (by exact fun _ _ h=>pk h rfl trivial rfl)) rfl
 rintro θ R ⟨h7d, h11d, _⟩
 exact Opp.plain (OG.imp (OD.mul rfl rfl rfl) (by exact fun _ _ h=>pk h rfl trivial rfl)) rfl
 rintro θ R ⟨h3d, h12d, _⟩
 exact Opp.plain (OG.imp (OD.sub rfl rfl rfl) (by exact fun _ _ h=>pk h rfl trivial rfl)) rfl
 rintro θ R ⟨h0d, h1d, _⟩
 exact Opp.plain (OG.imp (OD.indexAddr rfl et22 rfl (Ent.ints (i := 0) rfl) rfl (by omega)) (by exact fun _ _ h=>pk h rfl trivial rfl)) rfl
 intro θ hall
 obtain ⟨_, _, _, _, _, _, _, _, _, _, _, _, _, _, _, _⟩ := hall
 refine G.at [] 0 (env' := [(1, .int .i64 (i)), (2, vx), (3, .pointer (some ⟨g1, 0, none⟩)), (7, v2), (12, .int .i64 ((x.length : Nat))), (13, .int .i64 ((k : Int))), (29, .int .i64 (IntKind.i64.wrap ((ys.getD (k) 0) - (IntKind.i64.wrap ((x.getD ((i : Int).toNat) 0) * (atI cr cd (k : Int) i)))))), (30, elemPtr v2 1 (k))]) ⟨rfl, rfl, rfl, rfl, rfl, rfl, rfl, rfl, trivial⟩ (own' := ints 3 v2 ys :: box g1 27 [.int .i64 (cr), vcd] :: own) rfl ?_
 show G _ _ _ [_] _ _ _ _
 refine G.stepD0 (OD.storeInt rfl ti3 rfl rfl (i := 0) rfl (by omega)) rfl rfl ?_
 refine G.nil (GE.blockN (GE.then_ (GC.region ?_)))
 refine G.stepD (OD.addI rfl rfl rfl (by first | omega | (simp only [List.length_set, List.length_replicate]; omega))) rfl rfl rfl ?_
 refine G.stepD (OD.move rfl rfl) rfl rfl rfl ?_
 refine G.nil ?_
 exact GE.again (k + 1, (ys).set (k) (IntKind.i64.wrap ((ys.getD (k) 0) - (IntKind.i64.wrap ((x.getD ((i : Int).toNat) 0) * (atI cr cd (k : Int) i)))))) (⟨by omega, by rw [List.length_set]; exact hyl, fun t ht => by rw [set_getD_ne (by omega)]; exact hsm t (by omega), fold_next hy (by first | rfl | (simp only [rfI]; rw [hsm k (Nat.le_refl k)]))⟩) (by first | omega | (dsimp only; omega)) ⟨rfl, rfl, rfl, rfl, rfl, rfl, trivial⟩ [] 0 rfl
 replace hc4 := of_decide_eq_false hc4
 refine GC.exit (GE.pass (GE.pass (GE.hit (GE.then_ (GC.seq (GC.region ?_))))))
 refine G.stepD (OD.move rfl rfl) rfl rfl rfl ?_
 refine G.stepD (OD.assign rfl rfl) rfl rfl rfl ?_
 refine G.nil (GE.then_ (GC.ret ?_))
 exact GE.body [0] 1 (res1 rfl rfl) rfl (⟨v2, rfl, hs3, congrArg (fun (l0 : List Int) => ints 3 v2 l0 :: own) ((by rw [hy, show k = x.length by omega]; rfl : ys = rfF cr cd i x))⟩)
end Go.Proofs.YtgelkakjmbiibaaGreatDoor
